/-
  The contract of rational.number. Its condition: the text holds digits alone, at most 2000.
-/
import Derived.Test.YtjppjhjfogjhaaaGreatDoorTxtC
namespace Go.Proofs.YtjppjhjfogjhaaaGreatDoor
open Go.RowKit Go.Lib Go.Sort
set_option linter.unusedSimpArgs false
set_option linter.unusedVariables false

theorem decFrom_split (l : List UInt8) (k x N : Nat) (hk : k ≤ l.length) (h : decFrom x l = some N) :
    ∃ v, decFrom 0 (l.take k) = some v ∧ v < 10 ^ k ∧ decFrom (x * 10 ^ k + v) (l.drop k) = some N := by
  obtain ⟨m, hm⟩ := decFrom_prefix l x N h k
  have hall : (decFrom 0 (l.take k)).isSome = true := (all_dig _ _).2 ((all_dig _ x).1 (by rw [hm]; rfl))
  obtain ⟨v, hv⟩ := Option.isSome_iff_exists.1 hall
  have h2 := decFrom_shift _ x v hv
  rw [List.length_take, Nat.min_eq_left hk] at h2
  refine ⟨v, hv, ?_, ?_⟩
  · have := decFrom_lt _ _ _ hv
    rw [List.length_take, Nat.min_eq_left hk] at this
    simpa using this
  · rw [← List.take_append_drop k l, decFrom_append _ _ _ _ h2] at h
    exact h

theorem decFrom_ge {l : List UInt8} {x N : Nat} (h : decFrom x l = some N) : x ≤ N := by
  obtain ⟨v, hv⟩ := Option.isSome_iff_exists.1 (show (decFrom 0 l).isSome = true from (all_dig _ _).2 ((all_dig _ x).1 (by rw [h]; rfl)))
  have := decFrom_shift _ x v hv
  rw [h] at this
  injection this with this
  have hp : 1 ≤ 10 ^ l.length := Nat.one_le_pow _ _ (by decide)
  rw [this]
  exact Nat.le_trans (Nat.le_mul_of_pos_right x hp) (Nat.le_add_right _ _)

theorem lim_dec {l : List UInt8} {N : Nat} (h : decFrom 0 l = some N) : N < 4294967296 ^ l.length := by
  have := decFrom_lt _ _ _ h
  simp only [Nat.zero_add, Nat.one_mul] at this
  exact Nat.lt_of_lt_of_le this (Nat.pow_le_pow_left (by decide) _)

set_option maxHeartbeats 1000000 in
theorem numberD_any (s : ByteArray) (N : Nat) (hs : s.size ≤ 2000) (h : decFrom 0 s.data.toList = some N) (w : World) :
    Calls Tryz.prog 60 #[.string s] w (NumRes w N) := by
  have hN := hid (lim_dec h)
  have hsz := hid (Lib.size_eq s)
  go_enter Tryz.func60, Tryz.ntmps60
  go_wp2_with fail
  go_loopg [0, 3] s.size (fun k sv ov wr => ∃ (t : ByteArray) (x : Nat) (oo : Option Addr) (on oc : Nat), sv = .string t ∧ k ≤ s.size ∧ Hid (t.size = k) ∧ ov = .slice oo on oc ∧ Sl wr oo on oc (u32s (dig x)) ∧ (oo = none → oc = 0) ∧ Hid (decFrom x t.data.toList = some N) ∧ Hid (x = 0 ∨ k % 9 = 0) ∧ Below w.heap.size w wr)
  case atStart => exact ⟨s, 0, none, 0, 0, rfl, Nat.le_refl _, hid rfl, rfl, by rw [dig_zero]; exact Sl.nil w, fun _ => rfl, hid h, hid (.inl rfl), Below.refl _ _⟩
  case round =>
    obtain ⟨t, x, oo, on, oc, rfl, hks, htk, rfl, sx, hz, hdec, h9, hbel⟩ := hrel
    have hxN : x ≤ N := decFrom_ge hdec.out
    have hon : on ≤ 2000 := by
      have := sx.lenD (k := s.data.toList.length) (Nat.lt_of_le_of_lt hxN hN.out)
      rw [← hsz.out] at this; omega
    clear hxN
    obtain ⟨tk, htk'⟩ : ∃ k, t.size = k := ⟨_, rfl⟩
    obtain rfl : tk = gk := by rw [← htk', htk.out]
    by_cases hg : tk = 0
    · subst hg
      have hx : x = N := by
        have := hdec.out
        rw [show t.data.toList = [] from List.eq_nil_of_length_eq_zero (by rw [← Lib.size_eq]; exact htk')] at this
        simpa [decFrom] using this
      subst hx
      go_wp2_with fail
      go_ret
      exact ⟨_, _, _, rfl, sx, hz, hbel⟩
    · have hsub : t.data.toList.length = tk := by rw [← Lib.size_eq]; exact htk'
      obtain ⟨m, hm⟩ : ∃ m, (tk - 1) % 9 + 1 = m := ⟨_, rfl⟩
      have hm1 : 1 ≤ m ∧ m ≤ 9 ∧ m ≤ tk := by omega
      obtain ⟨hm1, hm2, hm3⟩ := hm1
      obtain ⟨v, hv, hvl, hrest⟩ := decFrom_split _ m x N (by omega) hdec.out
      have hv9 : v < 1000000000 := Nat.lt_of_lt_of_le hvl (Nat.le_trans (Nat.pow_le_pow_right (by decide) hm2) (by decide))
      have hx' : x * 10 ^ m + v = x * 1000000000 + v := by
        rcases h9.out with h0 | h0
        · rw [h0]; simp
        · have : m = 9 := by omega
          rw [this]
      rw [hx'] at hrest
      have hd1 : (t.extract 0 m).data.toList = t.data.toList.take m := by rw [Lib.extract_data]; simp
      have hd2 : (t.extract m t.size).data.toList = t.data.toList.drop m := by rw [Lib.extract_data, List.take_of_length_le (by rw [List.length_drop, Lib.size_eq]; omega)]
      have hA := atoi_any (t.extract 0 m) (by rw [Lib.size_eq, hd1, List.length_take]; omega) (by rw [hd1]; intro e; have := congrArg List.length e; rw [List.length_take, List.length_nil] at this; omega) v (by rw [hd1]; exact hv)
      have hdec' : Hid (decFrom (x * 1000000000 + v) (t.extract m t.size).data.toList = some N) := hid (by rw [hd2]; exact hrest)
      have hsz' : Hid ((t.extract m t.size).size = tk - m) := hid (by rw [Lib.size_eq, hd2, List.length_drop]; omega)
      have h9' : Hid (x * 1000000000 + v = 0 ∨ (tk - m) % 9 = 0) := hid (.inr (by omega))
      have hmI : ((tk : Int) - 1) % 9 + 1 = m := by omega
      have HA := hid hA
      have HM := hid hm
      rw [htk'] at hsz' hdec'
      clear hx' hrest hd1 hd2 hA hm hv hvl hsub hdec h9 hg
      go_wp2_with fail
      refine (HA.out _).mono ?_; rintro e w1 ⟨rfl, hb1⟩
      have hbel1 := below_chain hbel hb1
      have s10 := (one_limb (w := w1) 1000000000 (by decide)).1
      have h10 : Hid ([1000000000] = dig 1000000000) := hid (by rw [dig_pos (by decide), show 1000000000 / 4294967296 = 0 from rfl, dig_zero])
      rw [h10.out] at s10
      have sx1 := (sx.next hb1).next (below_alloc (.cells #[.int .u32 ((1000000000 : Nat) : Int)] 72))
      have hbel2 : Below w.heap.size w (w1.alloc (.cells #[.int .u32 ((1000000000 : Nat) : Int)] 72)) := hbel1.alloc hbel1.size _
      simp only [Int.cast_ofNat_Int] at s10 sx1 hbel2
      go_wp2_with fail
      refine (timesD x 1000000000 sx1 s10 (by omega) (by decide)).mono ?_; rintro e w2 ⟨po, pn, pc, rfl, sp, hzp, hb2, _⟩
      have hbel3 := below_chain hbel2 hb2
      have hpn : pn ≤ 3000 := by
        have h1 : lim (x * 1000000000) ≤ on + 1 := Nat.le_trans (lim_mul _ _) (Nat.add_le_add (by rw [lim, sx.lenU]; exact Nat.le_refl _) (lim_small (by decide)))
        rw [lim, sp.lenU] at h1
        omega
      clear s10 h10 sx1 hbel2
      obtain ⟨s6, hl6, hv6⟩ := one_limb (w := w2) v (by omega)
      have hv6 := hid hv6
      have hvw : IntKind.u32.wrap (v : Int) = (v : Int) := by
        rw [IntKind.wrap_u32]; omega
      go_wp2_with fail
      refine (clean_any [v] _ _ _ _ s6).mono ?_; rintro e w3 ⟨⟨k6, rfl, hk6, hs6⟩, rfl⟩
      have s7 := takeU s6 hk6 hs6
      rw [strip_eq hl6, hv6.out] at s7
      have Hs6 := hid hs6; clear hs6 s6
      have b6 : Below w2.heap.size w2 (w2.alloc (.cells #[.int .u32 (v : Int)] 72)) := below_alloc _
      go_wp2_with fail
      refine (plusD (x * 1000000000) v (sp.next b6) s7 (by omega) (by omega)).mono ?_; rintro e w4 ⟨qo, qn, qc, rfl, sq, hzq, hb4, _⟩
      have hbel4 := below_chain (below_chain hbel3 b6) hb4
      go_wp2_with fail
      have hlt : tk - m < tk := by omega
      go_roundg (tk - m)
      case measure => exact hlt
      case rel => exact ⟨_, _, qo, qn, qc, rfl, by omega, hsz', rfl, sq, hzq, hdec', h9', hbel4⟩

end Go.Proofs.YtjppjhjfogjhaaaGreatDoor
