/-
  Joined out of XLimG, XLimH, XLimI, XLimJ, XLimK, XLimL.
-/
import Derived.Test.YtgohfieleckmgaaGreatDoorLen
import Derived.Deep.LoopGhost

/-
  The contract of limbs.left. No condition but sizes.
-/
namespace Go.Proofs.YtgohfieleckmgaaGreatDoor
open Go.RowKit

/-- 'make([]T, n, c)': a new row of zeros (one cell an element). -/
theorem wp_make2 {P : Program} {w : World} {ops : Array Oper} {rest : List Oper} {o : Oper} {a : Act} {Q : Exit → Act → World → Prop} (hgd : o.guard = none) (l c : Operand) (t : TypeId)
    (ho : o.op = Op.makeSlice t l c) (e : TypeId) (z : Value) (bytes : Nat) (ht : P.underlying t = some (.slice e))
    (hinfo : (P.info? e).map (fun i => (i.zero, i.size, i.bytes)) = some (some z, 1, bytes)) (hzs : z.cells = #[z])
    (kl kc : IntKind) (L C : Int) (n m : Nat) (hl : a.eval l = .int kl L) (hc : a.eval c = .int kc C) (hL : L = (n : Int)) (hC : C = (m : Int)) (hnm : n ≤ m)
    (hroom : bytes * m ≤ 281474976710656) (hml : m ≤ 9223372036854775807)
    (h : ∀ w', w'.ownsRow w.heap.size e 1 (.slice (some ⟨w.heap.size, 0, none⟩) n m) n (List.replicate n z) → w.grownBy w' none → Below w.heap.size w w' → wpList P ops Q rest (a.put o.dst (.slice (some ⟨w.heap.size, 0, none⟩) n m)) w') : wpList P ops Q (o :: rest) a w := by
  obtain ⟨i, hi, hz, hsz, hby⟩ := info_parts hinfo
  subst hL hC
  refine wpList_plain hgd fun K hK' => ?_
  have hrun := run_make (P := P) w t e i z ht hi hz kl kc n m (by omega) (by omega) (by
    have := Int.natCast_mul bytes m
    rw [hby]; omega) (by omega)
  unfold Oper.wp
  simp only [execOp, ho, hl, hc, hrun, Int.toNat_natCast, Sem.run_bind, Result.andThen, Sem.run_pure, Oper.upon_value]
  refine hK' _ _ (h _ ?_ (World.grownBy_alloc _ _ _) (below_alloc _))
  refine ⟨by simp, .inr ⟨w.heap.size, m, _, rfl, Nat.le_refl _, heap_alloc_new w _, hnm, by unfold maxLen; omega, by rw [size_madeCells, hsz], ?_⟩⟩
  rw [hzs, hsz, toList_madeCells_one, List.take_replicate]
  congr 1; omega

/-- One round of left. -/
theorem left_step {a i c s x : Nat} {o : List Nat} (hlen : o.length = i) (h : val o + 4294967296 ^ i * c = (a % 4294967296 ^ i) * 2 ^ s) (hx : x = a / 4294967296 ^ i % 4294967296) :
    val (o ++ [(c + x * 2 ^ s) % 4294967296]) + 4294967296 ^ (i + 1) * ((c + x * 2 ^ s) / 4294967296) = (a % 4294967296 ^ (i + 1)) * 2 ^ s := by
  rw [val_append, hlen, mod_step a i, ← hx, Nat.pow_succ, Nat.add_mul, ← h]
  simp only [val]
  generalize 4294967296 ^ i = p at *
  have h1 := Nat.mod_add_div (c + x * 2 ^ s) 4294967296
  generalize (c + x * 2 ^ s) % 4294967296 = r at *
  generalize (c + x * 2 ^ s) / 4294967296 = q at *
  have h2 : p * (r + 4294967296 * q) = p * (c + x * 2 ^ s) := by rw [h1]
  simp only [Nat.mul_add, Nat.mul_zero, Nat.add_zero, ← Nat.mul_assoc] at h2 ⊢
  omega

theorem shl_or {s c x : Nat} (hs : s < 32) (hc : c < 2 ^ s) (hx : x < 4294967296) : ∃ y z : Nat, IntKind.u64.wrap ((x : Int) * 2 ^ s) = (y : Int) ∧ bits .or .u64 (c : Int) (y : Int) = (z : Int) ∧ z = c + x * 2 ^ s ∧ z / 4294967296 < 2 ^ s ∧ z < 9223372036854775808 := by
  have h31 : 2 ^ s ≤ 2147483648 := Nat.le_trans (Nat.pow_le_pow_right (by decide) (show s ≤ 31 by omega)) (by decide)
  have h1 : x * 2 ^ s + 2 ^ s ≤ 4294967296 * 2 ^ s := by
    have := Nat.mul_le_mul_right (2 ^ s) (show x + 1 ≤ 4294967296 by omega)
    rw [Nat.add_mul, Nat.one_mul] at this; exact this
  refine ⟨x * 2 ^ s, c + x * 2 ^ s, ?_, ?_, rfl, by rw [Nat.div_lt_iff_lt_mul (by decide)]; omega, by omega⟩
  · have e : ((x * 2 ^ s : Nat) : Int) = (x : Int) * 2 ^ s := by simp
    rw [← e, wrapU]
    exact (fun (q : Nat) (h : q < 18446744073709551616) => (by omega : (q : Int) % 18446744073709551616 = q)) _ (by omega)
  · rw [u64_or_nat _ _ (by omega) (by omega)]
    congr 1
    rw [Nat.or_comm, ← Nat.shiftLeft_eq, ← Nat.shiftLeft_add_eq_or_of_lt hc, Nat.add_comm]

set_option maxHeartbeats 2000000 in
theorem left_any (a : List Nat) (ha : Lim a) (k : Nat) (hk : k ≤ 1099511627776) (ao : Option Addr) (n cap : Nat) (w : World) (hA : Sl w ao n cap (u32s a)) (hn : n ≤ 1099511627776) :
    Calls Tryz.prog 164 #[.slice ao n cap, .int .i64 (k : Int)] w (NumOut w (val a * 2 ^ k)) := by
  have hla := hid hA.lenU
  have ha' := hid (limb_at ha)
  obtain ⟨K, hK⟩ : ∃ K : Nat, (k : Int) / 32 = K := ⟨k / 32, rfl⟩
  obtain ⟨s, hs⟩ : ∃ s : Nat, (k : Int) % 32 = s := ⟨k % 32, rfl⟩
  have hks : Hid (k = 32 * K + s) := hid (by omega)
  have hs32 : s < 32 := by omega
  have hKb : K ≤ 34359738368 := by omega
  go_enter Tryz.func164, Tryz.ntmps164
  go_wp2_with (at_make; go_loud (refine wp_make2 rfl (.tmp 10) (.tmp 16) 108 rfl 102 _ 4 Tryz.underlying108 Tryz.infoU32 rfl _ _ _ _ K (K + n + 1) rfl rfl rfl rfl (by omega) (by omega) (by omega) ?_))
  intro w1 hown _ hb1
  go_wp2_with fail
  go_loopw [5, 6, 20] (fun v r i wr => ∃ (j c : Nat) (o : List Nat), j ≤ n ∧ i = .int .i64 j ∧ r = .int .u64 c ∧ c < 2 ^ s ∧ Lim o ∧ Hid (o.length = j) ∧ Hid (val o + 4294967296 ^ j * c = val a % 4294967296 ^ j * 2 ^ s) ∧
      wr.ownsRow w.heap.size 102 1 v (K + j) (u32s (List.replicate K 0 ++ o)) ∧ Below w.heap.size w wr) (fun _ _ i _ => n - (intOf i).toNat)
  case atStart => exact ⟨0, 0, [], by omega, rfl, rfl, Nat.pow_pos (by decide), lim_nil, hid rfl, hid (by simp [val, Nat.mod_one]), by simpa [u32s] using hown, hb1⟩
  case round =>
    clear hown hb1
    obtain ⟨j, c, o, hj, rfl, rfl, hc, hlo, hlen, hval, hown, hbel⟩ := hrel
    by_cases hlt : j < n
    · have hA1 := hA.next hbel
      obtain ⟨x, hx', b, off, rfl, hcell⟩ := hA1.u32 hlt
      have hxl := ha x (List.mem_of_getElem? hx')
      have hxe : x = val a / 4294967296 ^ j % 4294967296 := by rw [← ha'.out j, List.getD, hx']; rfl
      have hst := hid (left_step hlen.out hval.out hxe)
      clear hx' hxe
      obtain ⟨y, z, hw, hor, hz, hp2, hz3⟩ := shl_or hs32 hc hxl
      rw [← hz] at hst
      have Hp2 := hid hp2
      clear hp2 hz
      have hlit : Sl (wr.alloc (.cells #[.int .u32 ((z : Int) % 4294967296)] 102)) (some ⟨wr.heap.size, 0, none⟩) 1 1 (u32s [z % 4294967296]) := by
        have := Sl.lit wr [.int .u32 ((z : Int) % 4294967296)] 102 (by simp [maxLen])
        simpa [u32s] using this
      go_wp2_with (at_builtin; go_loud (refine wp_app rfl (.tmp 31) (.tmp 34) 108 rfl 102 _ 4 Tryz.underlying108 Tryz.infoU32 rfl w.heap.size _ (K + j) _ rfl (hown.alloc _) _ 1 1 _ rfl hlit (fun h => by cases h) (u32s_one _) (by omega) (by omega) (by have := hbel.size; simp only [World.size_alloc]; omega) ?_))
      intro v' w2 hown2 hg2 hb2
      have hbel2 : Below w.heap.size w w2 := (hbel.alloc hbel.size _).trans hb2
      have hown3 : w2.ownsRow w.heap.size 102 1 v' (K + (j + 1)) (u32s (List.replicate K 0 ++ (o ++ [z % 4294967296]))) := by
        have : K + (j + 1) = K + j + 1 := by omega
        rw [this, ← List.append_assoc]; simpa [u32s] using hown2
      clear hown2
      go_wp2_with fail
      go_roundw
      case rel => exact ⟨j + 1, z / 4294967296, o ++ [z % 4294967296], by omega, by go_num, by simp, Hp2.out, lim_append.2 ⟨hlo, lim_cons.2 ⟨Nat.mod_lt _ (by decide), lim_nil⟩⟩, hid (by rw [List.length_append, hlen.out]; rfl), hst.out, hown3, hbel2⟩
      case measure => simp [intOf]; omega
    · obtain rfl : j = n := by omega
      have hc31 : c < 4294967296 := Nat.lt_of_lt_of_le hc (Nat.le_trans (Nat.pow_le_pow_right (by decide) (show s ≤ 31 by omega)) (by decide))
      have hres : Hid (val (List.replicate K 0 ++ (o ++ [c])) = val a * 2 ^ k) := hid (by
        have h1 := hval.out
        rw [Nat.mod_eq_of_lt (by have := val_lt ha; rwa [hla.out] at this)] at h1
        have hz : ∀ j r, val (List.replicate j 0 ++ r) = 4294967296 ^ j * val r := fun j r => by
          rw [val_append]
          have : val (List.replicate j 0) = 0 := by induction j with | zero => rfl | succ j ih => simp [List.replicate_succ, val, ih]
          rw [this]; simp
        rw [hz, val_append, hlen.out]
        simp only [val, Nat.mul_zero, Nat.add_zero]
        rw [h1, hks.out, Nat.pow_add, Nat.pow_mul, Nat.mul_left_comm])
      have hlit : Sl (wr.alloc (.cells #[.int .u32 (c : Int)] 102)) (some ⟨wr.heap.size, 0, none⟩) 1 1 (u32s [c]) := Sl.lit wr [.int .u32 (c : Int)] 102 (by simp [maxLen])
      go_wp2_with (at_builtin; go_loud (refine wp_app rfl (.tmp 39) (.tmp 42) 108 rfl 102 _ 4 Tryz.underlying108 Tryz.infoU32 rfl w.heap.size _ (K + j) _ rfl (hown.alloc _) _ 1 1 _ rfl hlit (fun h => by cases h) (u32s_one _) (by omega) (by omega) (by have := hbel.size; simp only [World.size_alloc]; omega) ?_))
      intro v' w2 hown2 hg2 hb2
      have hbel2 : Below w.heap.size w w2 := (hbel.alloc hbel.size _).trans hb2
      have hown3 : w2.ownsRow w.heap.size 102 1 v' (K + j + 1) (u32s (List.replicate K 0 ++ (o ++ [c]))) := by
        rw [← List.append_assoc]; simpa [u32s] using hown2
      clear hown2
      have hl3 : Lim (List.replicate K 0 ++ (o ++ [c])) := lim_append.2 ⟨fun x hx => by rw [(List.mem_replicate.1 hx).2]; decide, lim_append.2 ⟨hlo, lim_cons.2 ⟨hc31, lim_nil⟩⟩⟩
      obtain ⟨oo, ocap, rfl, osl⟩ := ownsSl hown3
      go_wp2_with fail
      refine (clean_any _ _ _ _ _ osl).mono ?_; rintro e w3 ⟨⟨k', rfl, hk', hs'⟩, rfl⟩
      have Hs' := hid hs'; clear hs'
      go_wp2_with fail
      go_ret
      exact NumOut.ofOwn hown3 hl3 hres.out hk' Hs'.out hbel2

end Go.Proofs.YtgohfieleckmgaaGreatDoor

/-
  The contract of limbs.right. No condition but sizes.
-/
namespace Go.Proofs.YtgohfieleckmgaaGreatDoor
open Go.RowKit

theorem at_anyI (l : List Nat) (hl : Lim l) (I : Int) (i x : Nat) (hI : I = (i : Int)) (hX : l.getD i 0 = x) (ao : Option Addr) (n cap : Nat) (w : World) (h : Sl w ao n cap (u32s l)) :
    Calls Tryz.prog 132 #[.slice ao n cap, .int .i64 I] w fun e w' => e = .returned (.int .u64 (x : Int)) ∧ w = w' := by
  subst hI; exact at_any l hl i x hX ao n cap w h

theorem shift_core (B s t x y r p : Nat) (hB : 2 ^ s * 2 ^ t = B) (h : p = x + B * (y + B * r)) : p / 2 ^ s % B = (y * B + x) / 2 ^ s % B := by
  have h3 : p = (y * B + x) + 2 ^ s * (B * (2 ^ t * r)) := by
    rw [Nat.mul_left_comm (2 ^ s), ← Nat.mul_assoc (2 ^ s), hB, h, Nat.mul_add, Nat.mul_comm y B]
    omega
  rw [h3, Nat.add_mul_div_left _ _ (Nat.pow_pos (by decide)), Nat.add_mul_mod_self_left]

theorem right_core (B a K s t j x y v : Nat) (hB : 2 ^ s * 2 ^ t = B) (h : v = a / B ^ K / 2 ^ s % B ^ j) (h1 : a / B ^ (K + j) = x + B * (a / B ^ (K + j + 1))) (h2 : a / B ^ (K + j + 1) = y + B * (a / B ^ (K + j + 1 + 1))) :
    v + B ^ j * ((y * B + x) / 2 ^ s % B) = a / B ^ K / 2 ^ s % B ^ (j + 1) := by
  rw [h2] at h1
  have hc := shift_core B s t x y _ _ hB h1
  have he : a / B ^ K / 2 ^ s / B ^ j = a / B ^ (K + j) / 2 ^ s := by
    rw [Nat.div_div_eq_div_mul _ (2 ^ s), Nat.mul_comm (2 ^ s), ← Nat.div_div_eq_div_mul, Nat.div_div_eq_div_mul a, ← Nat.pow_add]
  have hm : a / B ^ K / 2 ^ s % B ^ (j + 1) = a / B ^ K / 2 ^ s % B ^ j + B ^ j * (a / B ^ K / 2 ^ s / B ^ j % B) := by rw [Nat.pow_succ, Nat.mod_mul]
  rw [hm, ← h, he, hc]

theorem val_snoc (o : List Nat) (q : Nat) : val (o ++ [q]) = val o + 4294967296 ^ o.length * q := by
  rw [val_append]; simp only [val, Nat.mul_zero, Nat.add_zero]

/-- One round of right. -/
theorem right_step {a K s j x y : Nat} {o : List Nat} (hs : s < 32) (hlen : o.length = j) (h : val o = a / 4294967296 ^ K / 2 ^ s % 4294967296 ^ j) (hx : x = a / 4294967296 ^ (K + j) % 4294967296) (hy : y = a / 4294967296 ^ (K + j + 1) % 4294967296) :
    val (o ++ [(y * 4294967296 + x) / 2 ^ s % 4294967296]) = a / 4294967296 ^ K / 2 ^ s % 4294967296 ^ (j + 1) := by
  have h1 := div_step a (K + j)
  have h2 := div_step a (K + j + 1)
  rw [← hx] at h1
  rw [← hy] at h2
  have hB : 2 ^ s * 2 ^ (32 - s) = 4294967296 := by rw [← Nat.pow_add, show s + (32 - s) = 32 by omega]
  have e1 : val (o ++ [(y * 4294967296 + x) / 2 ^ s % 4294967296]) = val o + 4294967296 ^ j * ((y * 4294967296 + x) / 2 ^ s % 4294967296) := by
    rw [val_snoc, hlen]
  exact e1.trans (right_core 4294967296 a K s (32 - s) j x y (val o) hB h h1 h2)

set_option maxHeartbeats 2000000 in
theorem right_any (a : List Nat) (ha : Lim a) (k : Nat) (hk : k ≤ 1099511627776) (ao : Option Addr) (n cap : Nat) (w : World) (hA : Sl w ao n cap (u32s a)) (hn : n ≤ 1099511627776) :
    Calls Tryz.prog 165 #[.slice ao n cap, .int .i64 (k : Int)] w (NumOut w (val a / 2 ^ k)) := by
  have hla := hid hA.lenU
  have ha' := hid (limb_at ha)
  obtain ⟨K, hK⟩ : ∃ K : Nat, (k : Int) / 32 = K := ⟨k / 32, rfl⟩
  obtain ⟨s, hs⟩ : ∃ s : Nat, (k : Int) % 32 = s := ⟨k % 32, rfl⟩
  have hks : Hid (k = 32 * K + s) := hid (by omega)
  have hs32 : s < 32 := by omega
  have hKb : K ≤ 34359738368 := by omega
  have hres : Hid (val a / 2 ^ k = val a / 4294967296 ^ K / 2 ^ s) := hid (by
    rw [Nat.div_div_eq_div_mul, hks.out, Nat.pow_add, Nat.pow_mul])
  go_enter Tryz.func165, Tryz.ntmps165
  go_wp2_with fail
  go_loopw [5, 6] (fun v i wr => ∃ (j : Nat) (o : List Nat), i = .int .i64 ((K : Int) + j) ∧ (K + j ≤ n ∨ j = 0) ∧ Lim o ∧ Hid (o.length = j) ∧ Hid (val o = val a / 4294967296 ^ K / 2 ^ s % 4294967296 ^ j) ∧
      wr.ownsRow w.heap.size 102 1 v j (u32s o) ∧ Below w.heap.size w wr) (fun _ i _ => n - (intOf i).toNat)
  case atStart => exact ⟨0, [], by simp, .inr rfl, lim_nil, hid rfl, hid (by simp [val, Nat.mod_one]), World.ownsRow_nil _ _ _ _, Below.refl _ _⟩
  case round =>
    obtain ⟨j, o, rfl, hj, hlo, hlen, hval, hown, hbel⟩ := hrel
    by_cases hlt : K + j < n
    · have hA1 := hA.next hbel
      obtain ⟨x, hx⟩ : ∃ x, x = val a / 4294967296 ^ (K + j) % 4294967296 := ⟨_, rfl⟩
      obtain ⟨y, hy⟩ : ∃ y, y = val a / 4294967296 ^ (K + j + 1) % 4294967296 := ⟨_, rfl⟩
      have hxl : x < 4294967296 := by rw [hx]; exact Nat.mod_lt _ (by decide)
      have hyl : y < 4294967296 := by rw [hy]; exact Nat.mod_lt _ (by decide)
      have hst := hid (right_step hs32 hlen.out hval.out hx hy)
      have Hga := hid (ha'.out (K + j)); have Hgb := hid (ha'.out (K + j + 1))
      rw [← hx] at Hga; rw [← hy] at Hgb
      clear hx hy
      have hor := or_shl y x hyl hxl
      obtain ⟨z, hz⟩ : ∃ z : Nat, (y : Int) * 4294967296 + x = z := ⟨y * 4294967296 + x, by simp⟩
      have hzn : Hid (y * 4294967296 + x = z) := hid (by omega)
      have hzl : z ≤ 18446744073709551615 := by omega
      rw [hz] at hor
      rw [hzn.out] at hst
      clear hz
      go_wp2_with fail
      refine (at_anyI a ha _ (K + j + 1) y (by omega) Hgb.out _ _ _ _ hA1).mono ?_; rintro e w1 ⟨rfl, rfl⟩
      go_wp2_with fail
      refine (at_anyI a ha _ (K + j) x (by omega) Hga.out _ _ _ _ hA1).mono ?_; rintro e w1 ⟨rfl, rfl⟩
      have hlit : Sl (wr.alloc (.cells #[.int .u32 ((z : Int) / 2 ^ s % 4294967296)] 102)) (some ⟨wr.heap.size, 0, none⟩) 1 1 (u32s [z / 2 ^ s % 4294967296]) := by
        have := Sl.lit wr [.int .u32 ((z : Int) / 2 ^ s % 4294967296)] 102 (by simp [maxLen])
        simpa [u32s] using this
      go_wp2_with (at_builtin; go_loud (refine wp_app rfl (.tmp 15) (.tmp 29) 108 rfl 102 _ 4 Tryz.underlying108 Tryz.infoU32 rfl w.heap.size _ j _ rfl (hown.alloc _) _ 1 1 _ rfl hlit (fun h => by cases h) (u32s_one _) (by omega) (by omega) (by have := hbel.size; simp only [World.size_alloc]; omega) ?_))
      intro v' w2 hown2 hg2 hb2
      have hbel2 : Below w.heap.size w w2 := (hbel.alloc hbel.size _).trans hb2
      have hown3 : w2.ownsRow w.heap.size 102 1 v' (j + 1) (u32s (o ++ [z / 2 ^ s % 4294967296])) := by
        simpa [u32s] using hown2
      clear hown2
      go_wp2_with fail
      go_roundw
      case rel => exact ⟨j + 1, o ++ [z / 2 ^ s % 4294967296], by go_num, .inl (by omega), lim_append.2 ⟨hlo, lim_cons.2 ⟨Nat.mod_lt _ (by decide), lim_nil⟩⟩, hid (by rw [List.length_append, hlen.out]; rfl), hst.out, hown3, hbel2⟩
      case measure => simp [intOf]; omega
    · have hfin : Hid (val o = val a / 2 ^ k) := hid (by
        rw [hval.out, hres.out]
        apply Nat.mod_eq_of_lt
        have h1 : val a / 4294967296 ^ K < 4294967296 ^ j := by
          rw [Nat.div_lt_iff_lt_mul (Nat.pow_pos (by decide)), ← Nat.pow_add]
          exact Nat.lt_of_lt_of_le (val_lt ha) (Nat.pow_le_pow_right (by decide) (by rw [hla.out]; omega))
        exact Nat.lt_of_le_of_lt (Nat.div_le_self _ _) h1)
      obtain ⟨oo, ocap, rfl, osl⟩ := ownsSl hown
      go_wp2_with fail
      refine (clean_any _ _ _ _ _ osl).mono ?_; rintro e w3 ⟨⟨k', rfl, hk', hs'⟩, rfl⟩
      have Hs' := hid hs'; clear hs'
      go_wp2_with fail
      go_ret
      exact NumOut.ofOwn hown hlo hfin.out hk' Hs'.out hbel

end Go.Proofs.YtgohfieleckmgaaGreatDoor

/-
  The contracts of the limbs' functions said of numbers; plain facts of long division. No condition but sizes.
-/
namespace Go.Proofs.YtgohfieleckmgaaGreatDoor
open Go.RowKit

section
variable {w : World} {ao bo : Option Addr} {n m cap cap' : Nat}

theorem plusD (a b : Nat) (hA : Sl w ao n cap (u32s (dig a))) (hB : Sl w bo m cap' (u32s (dig b))) (hn : n ≤ 1099511627776) (hm : m ≤ 1099511627776) :
    Calls Tryz.prog 136 #[.slice ao n cap, .slice bo m cap'] w (NumOut w (a + b)) := by
  have := plus_any _ _ (lim_dig a) (lim_dig b) _ _ _ _ _ _ _ hA hB hn hm
  rwa [val_dig, val_dig] at this

theorem minusD (a b : Nat) (hle : b ≤ a) (hA : Sl w ao n cap (u32s (dig a))) (hB : Sl w bo m cap' (u32s (dig b))) (hn : n ≤ 1099511627776) (hm : m ≤ 1099511627776) :
    Calls Tryz.prog 137 #[.slice ao n cap, .slice bo m cap'] w (NumOut w (a - b)) := by
  have := minus_any _ _ (lim_dig a) (lim_dig b) (by rw [val_dig, val_dig]; exact hle) _ _ _ _ _ _ _ hA hB hn hm
  rwa [val_dig, val_dig] at this

theorem timesD (a b : Nat) (hA : Sl w ao n cap (u32s (dig a))) (hB : Sl w bo m cap' (u32s (dig b))) (hn : n ≤ 1099511627776) (hm : m ≤ 1099511627776) :
    Calls Tryz.prog 101 #[.slice ao n cap, .slice bo m cap'] w (NumOut w (a * b)) := by
  have := times_any _ _ (lim_dig a) (lim_dig b) _ _ _ _ _ _ _ hA hB hn hm
  rwa [val_dig, val_dig] at this

theorem cmpD (a b : Nat) (hA : Sl w ao n cap (u32s (dig a))) (hB : Sl w bo m cap' (u32s (dig b))) :
    Calls Tryz.prog 126 #[.slice ao n cap, .slice bo m cap'] w fun e w' => e = .returned (.int .i64 (ord a b)) ∧ w = w' := by
  have := cmp_any _ _ (lim_dig a) (lim_dig b) _ _ _ _ _ _ _ hA hB
  rwa [val_dig, val_dig] at this

theorem leftD (a : Nat) (I : Int) (k : Nat) (hI : I = (k : Int)) (hk : k ≤ 1099511627776) (hA : Sl w ao n cap (u32s (dig a))) (hn : n ≤ 1099511627776) :
    Calls Tryz.prog 164 #[.slice ao n cap, .int .i64 I] w (NumOut w (a * 2 ^ k)) := by
  subst hI
  have := left_any _ (lim_dig a) k hk _ _ _ _ hA hn
  rwa [val_dig] at this

theorem rightD (a : Nat) (I : Int) (k : Nat) (hI : I = (k : Int)) (hk : k ≤ 1099511627776) (hA : Sl w ao n cap (u32s (dig a))) (hn : n ≤ 1099511627776) :
    Calls Tryz.prog 165 #[.slice ao n cap, .int .i64 I] w (NumOut w (a / 2 ^ k)) := by
  subst hI
  have := right_any _ (lim_dig a) k hk _ _ _ _ hA hn
  rwa [val_dig] at this

theorem smallD (a d : Nat) (hd : 0 < d) (hd' : d < 4294967296) (hA : Sl w ao n cap (u32s (dig a))) (hn : n ≤ 1099511627776) :
    Calls Tryz.prog 162 #[.slice ao n cap, .int .u32 (d : Int)] w (SmallOut w (a / d) (a % d)) := by
  have := small_any _ (lim_dig a) d hd hd' _ _ _ _ hA hn
  rwa [val_dig] at this

theorem atD (a : Nat) (I : Int) (i x : Nat) (hI : I = (i : Int)) (hX : a / 4294967296 ^ i % 4294967296 = x) (hA : Sl w ao n cap (u32s (dig a))) :
    Calls Tryz.prog 132 #[.slice ao n cap, .int .i64 I] w fun e w' => e = .returned (.int .u64 (x : Int)) ∧ w = w' :=
  at_anyI _ (lim_dig a) I i x hI (by rw [dig_at]; exact hX) _ _ _ _ hA

/-- The length of a number's slice. -/
theorem Sl.lenD {a k : Nat} (hA : Sl w ao n cap (u32s (dig a))) (h : a < 4294967296 ^ k) : n ≤ k := by
  rw [← hA.lenU]; exact dig_len_le h
end

/-- A slice that does not lie in block G. -/
def Off (G : Nat) (ao : Option Addr) (n : Nat) : Prop := ∀ a, ao = some a → n ≠ 0 → a.block ≠ G

theorem Off.old {w : World} {ao : Option Addr} {n cap G : Nat} {xs : List Value} (h : Sl w ao n cap xs) (hG : w.heap.size ≤ G) : Off G ao n := by
  rintro a rfl hn
  have hl := h.len
  obtain ⟨b, off, e, hc⟩ := h.at_ 0 xs[0] (by rw [List.getElem?_eq_getElem])
  obtain rfl := Option.some.inj e
  have := World.block_lt_of_cell? w _ hc
  simp only at this ⊢
  omega

theorem Off.fresh {ao : Option Addr} {n G B : Nat} (h : ∀ a, ao = some a → B ≤ a.block) (hG : G < B) : Off G ao n := by
  intro a ha _
  have := h a ha
  omega

theorem Sl.setCell {w : World} {ao : Option Addr} {n cap G : Nat} {xs : List Value} (h : Sl w ao n cap xs) (hO : Off G ao n) (j : Nat) (v : Value) : Sl (w.setCell ⟨G, j, none⟩ v) ao n cap xs := by
  refine ⟨h.len, h.le, h.most, fun i x hx => ?_⟩
  obtain ⟨b, off, e, hc⟩ := h.at_ i x hx
  refine ⟨b, off, e, ?_⟩
  have hl := h.len
  have hi := (List.getElem?_eq_some_iff.1 hx).1
  have hne := hO _ e (by omega)
  rw [World.cell?_setCell_other (h := by intro e2; injection e2 with e3; exact hne e3.symm)]
  exact hc

/-! ### Long division, whatever the base -/
theorem guess_ge {B U v vt m k : Nat} (hv : vt * B ^ m ≤ v) (hU : U < v * B ^ (k + 1)) (hvt : 0 < vt) (hv0 : 0 < v) (hB : 0 < B) : U / (v * B ^ k) ≤ U / B ^ (m + k) / vt ∧ U / (v * B ^ k) < B := by
  have hk : 0 < B ^ k := Nat.pow_pos hB
  constructor
  · rw [Nat.le_div_iff_mul_le hvt, Nat.le_div_iff_mul_le (Nat.pow_pos hB)]
    have h1 : U / (v * B ^ k) * (v * B ^ k) ≤ U := Nat.div_mul_le_self _ _
    have h2 : U / (v * B ^ k) * vt * B ^ (m + k) ≤ U / (v * B ^ k) * (v * B ^ k) := by
      rw [Nat.mul_assoc, Nat.pow_add, ← Nat.mul_assoc vt]
      exact Nat.mul_le_mul_left _ (Nat.mul_le_mul_right _ hv)
    omega
  · rw [Nat.div_lt_iff_lt_mul (Nat.mul_pos hv0 hk)]
    rw [Nat.pow_succ] at hU
    calc U < v * (B ^ k * B) := hU
      _ = B * (v * B ^ k) := by rw [← Nat.mul_assoc, Nat.mul_comm]

theorem guess_eq {U P g : Nat} (hP : 0 < P) (h1 : U / P ≤ g) (h2 : g * P ≤ U) : g = U / P ∧ U - g * P < P ∧ U = (U - g * P) + P * g := by
  have h3 : g ≤ U / P := (Nat.le_div_iff_mul_le hP).2 h2
  have h4 : g = U / P := by omega
  have h5 := Nat.div_add_mod U P
  have h6 := Nat.mod_lt U hP
  rw [← h4] at h5
  have h7 : P * g = g * P := Nat.mul_comm _ _
  refine ⟨h4, by omega, by omega⟩

theorem guess_gt {U P g : Nat} (hP : 0 < P) (h2 : ¬ g * P ≤ U) : 1 ≤ g ∧ U / P ≤ g - 1 := by
  have h3 : U / P < g := by
    rw [Nat.div_lt_iff_lt_mul hP]; omega
  generalize U / P = q at *
  omega

theorem top_two {U j : Nat} (h : U < 4294967296 ^ (j + 2)) : U / 4294967296 ^ (j + 1) % 4294967296 * 4294967296 + U / 4294967296 ^ j % 4294967296 = U / 4294967296 ^ j := by
  have h1 := div_step U j
  have h2 := div_step U (j + 1)
  have h3 : U / 4294967296 ^ (j + 1 + 1) = 0 := Nat.div_eq_of_lt h
  rw [h3] at h2
  omega

end Go.Proofs.YtgohfieleckmgaaGreatDoor

/-
  The contract of limbs.over. Its condition: the divisor is not 0.
-/
namespace Go.Proofs.YtgohfieleckmgaaGreatDoor
open Go.RowKit

/-- Quotient and remainder. -/
def DivOut (w : World) (q r : Nat) (e : Ending) (w' : World) : Prop :=
  ∃ ao n cap bo m cap', e = .returned (.tuple #[.slice ao n cap, .slice bo m cap']) ∧ Sl w' ao n cap (u32s (dig q)) ∧ Sl w' bo m cap' (u32s (dig r)) ∧ (ao = none → cap = 0) ∧ (bo = none → cap' = 0) ∧ Below w.heap.size w w'

theorem one_limb {w : World} (x : Nat) (hx : x < 4294967296) : Sl (w.alloc (.cells #[.int .u32 (x : Int)] 102)) (some ⟨w.heap.size, 0, none⟩) 1 1 (u32s [x]) ∧ Lim [x] ∧ val [x] = x :=
  ⟨Sl.lit w [.int .u32 (x : Int)] 102 (by simp [maxLen]), lim_cons.2 ⟨hx, lim_nil⟩, by simp [val]⟩

theorem overOne_any (a d : Nat) (hd : 0 < d) (hd' : d < 4294967296) (ao bo : Option Addr) (n cap cap' : Nat) (w : World) (hA : Sl w ao n cap (u32s (dig a))) (hB : Sl w bo 1 cap' (u32s (dig d))) (hn : n ≤ 17179869184) :
    Calls Tryz.prog 135 #[.slice ao n cap, .slice bo 1 cap'] w (DivOut w (a / d) (a % d)) := by
  have hdd : dig d = [d] := by
    rw [dig_pos (by omega), Nat.mod_eq_of_lt hd', Nat.div_eq_of_lt hd', dig_zero]
  rw [hdd] at hB
  obtain ⟨y, hy, b, off, rfl, hcell⟩ := hB.u32 (show 0 < 1 by omega)
  obtain rfl : d = y := by simpa using hy
  clear hy hdd
  rw [Nat.add_zero] at hcell
  have hr : a % d < 4294967296 := by have := Nat.mod_lt a hd; omega
  go_enter Tryz.func135, Tryz.ntmps135
  go_wp2_with fail
  refine (smallD a d hd hd' hA (by omega)).mono ?_; rintro e w1 ⟨qo, qn, qcap, rfl, hq, hz, hb1⟩
  generalize hrr : a % d = r at hr
  have Hrr := hid hrr; clear hrr
  obtain ⟨s1, hl, hv⟩ := one_limb (w := w1) r hr
  have hv := hid hv
  go_wp2_with fail
  refine (clean_any [r] _ _ _ _ s1).mono ?_; rintro e w2 ⟨⟨k', rfl, hk', hs'⟩, rfl⟩
  have Hs' := hid hs'; clear hs'
  go_wp2_with fail
  go_ret2
  have h2 := takeU s1 hk' Hs'.out
  rw [strip_eq hl, hv.out] at h2
  rw [Hrr.out]
  exact ⟨_, _, _, _, _, _, rfl, hq.next (below_alloc _), h2, hz, (fun h => by cases h), hb1.alloc hb1.size _⟩

/-- The divisor made high. -/
theorem norm_facts {B b m u x : Nat} (hB : 2 ^ 32 = B) (hx : x = b / B ^ m) (hu : u ≤ 31) (h1 : 2147483648 ≤ x * 2 ^ u) (h2 : x * 2 ^ u < B) :
    b * 2 ^ u < B ^ (m + 1) ∧ B ^ m ≤ b * 2 ^ u ∧ 0 < b * 2 ^ u / B ^ m ∧ b * 2 ^ u / B ^ m < B := by
  have hB0 : 0 < B := by rw [← hB]; decide
  have hp : 0 < B ^ m := Nat.pow_pos hB0
  have h3 := Nat.div_add_mod b (B ^ m)
  have h4 := Nat.mod_lt b hp
  rw [← hx] at h3
  have h5 : (x + 1) * 2 ^ u ≤ B := by
    have e : B = 2 ^ (32 - u) * 2 ^ u := by rw [← Nat.pow_add, show 32 - u + u = 32 by omega, hB]
    rw [e] at h2 ⊢
    exact Nat.mul_le_mul_right _ (Nat.lt_of_mul_lt_mul_right h2)
  have h6 : b < (x + 1) * B ^ m := by rw [Nat.add_mul, Nat.one_mul, Nat.mul_comm x]; omega
  have h7 : b * 2 ^ u < B ^ (m + 1) := by
    calc b * 2 ^ u < (x + 1) * B ^ m * 2 ^ u := Nat.mul_lt_mul_of_pos_right h6 (Nat.pow_pos (by decide))
      _ = (x + 1) * 2 ^ u * B ^ m := by rw [Nat.mul_assoc, Nat.mul_comm (B ^ m), ← Nat.mul_assoc]
      _ ≤ B * B ^ m := Nat.mul_le_mul_right _ h5
      _ = B ^ (m + 1) := by rw [Nat.pow_succ, Nat.mul_comm]
  have h8 : x * 2 ^ u * B ^ m ≤ b * 2 ^ u := by
    calc x * 2 ^ u * B ^ m = B ^ m * x * 2 ^ u := by rw [Nat.mul_comm, ← Nat.mul_assoc]
      _ ≤ b * 2 ^ u := Nat.mul_le_mul_right _ (by rw [hx]; exact Nat.mul_div_le b _)
  have h9 : B ^ m ≤ b * 2 ^ u := Nat.le_trans (Nat.le_mul_of_pos_left _ (by omega)) h8
  exact ⟨h7, h9, Nat.div_pos h9 hp, by rw [Nat.div_lt_iff_lt_mul hp, Nat.mul_comm B]; rw [Nat.pow_succ] at h7; exact h7⟩

theorem dig_len_eq {v m : Nat} (h1 : v < 4294967296 ^ (m + 1)) (h2 : 4294967296 ^ m ≤ v) : (dig v).length = m + 1 := by
  have h3 := dig_len_le h1
  have h4 : m < (dig v).length := by
    have := Nat.lt_of_le_of_lt h2 (dig_lt v)
    exact (Nat.pow_lt_pow_iff_right (show 1 < 4294967296 by decide)).1 this
  omega

theorem top_limb {b m : Nat} (h : (dig b).length = m + 1) : ∃ x, (dig b)[m]? = some x ∧ x ≠ 0 ∧ x = b / 4294967296 ^ m ∧ b < 4294967296 ^ (m + 1) := by
  have h1 := dig_lt b
  rw [h] at h1
  have hb : b ≠ 0 := by rintro rfl; rw [dig_zero] at h; simp at h
  have h2 := dig_ge hb
  rw [h, Nat.add_sub_cancel] at h2
  have hl : m < (dig b).length := by omega
  have h3 := dig_at b m
  have h4 : b / 4294967296 ^ m < 4294967296 := by rw [Nat.div_lt_iff_lt_mul (Nat.pow_pos (by decide)), Nat.mul_comm, ← Nat.pow_succ]; exact h1
  rw [Nat.mod_eq_of_lt h4] at h3
  refine ⟨(dig b)[m], List.getElem?_eq_getElem hl, ?_, ?_, h1⟩
  · rw [List.getD, List.getElem?_eq_getElem hl] at h3
    have : 0 < b / 4294967296 ^ m := Nat.div_pos h2 (Nat.pow_pos (by decide))
    intro h0
    rw [h0] at h3
    simp at h3
    omega
  · rw [List.getD, List.getElem?_eq_getElem hl] at h3
    simpa using h3

end Go.Proofs.YtgohfieleckmgaaGreatDoor

/-
  The contract of limbs.over where the divisor has two limbs or more.
-/
namespace Go.Proofs.YtgohfieleckmgaaGreatDoor
open Go.RowKit

set_option maxHeartbeats 4000000 in
theorem overMany_any (a b m : Nat) (hm1 : 1 ≤ m) (hbl : (dig b).length = m + 1) (ao bo : Option Addr) (n cap cap' : Nat) (w : World) (hA : Sl w ao n cap (u32s (dig a))) (hB : Sl w bo (m + 1) cap' (u32s (dig b))) (hn : n ≤ 17179869184) (hm : m ≤ 17179869184) :
    Calls Tryz.prog 135 #[.slice ao n cap, .slice bo (m + 1) cap'] w (DivOut w (a / b) (a % b)) := by
  obtain ⟨x, hx, hx0, hxe, hbm⟩ := top_limb hbl
  have hal : Hid (a < 4294967296 ^ n) := hid (by have := dig_lt a; rwa [hA.lenU] at this)
  go_enter Tryz.func135, Tryz.ntmps135
  go_wp2_with fail
  refine (length_any (dig b) (lim_dig b) m x hx hx0 _ _ _ hB (by omega)).mono ?_; rintro e w1 ⟨⟨u, rfl, hu, hu1, hu2⟩, rfl⟩
  obtain ⟨f1, f2, f3, f4⟩ := norm_facts (B := 4294967296) (by decide) hxe hu hu1 hu2
  have hvl := dig_len_eq f1 f2
  have hx' := hid hx; have hxe' := hid hxe; have hbm' := hid hbm; have hbl' := hid hbl
  clear hx hxe hbm hbl hu1 hu2 hx0
  have hup : 32 * ((m : Int) + 1) - (32 * ((m : Int) + 1) - u) = u := by omega
  go_wp2_with fail
  refine (leftD a _ u rfl (by omega) hA (by omega)).mono ?_; rintro e w2 ⟨uo, un, ucap, rfl, su, hz2, hb2, _⟩
  go_wp2_with fail
  refine (leftD b _ u rfl (by omega) (hB.next hb2) (by omega)).mono ?_; rintro e w3 ⟨vo, vn, vcap, rfl, sv, hz3, hb3, _⟩
  obtain rfl : vn = m + 1 := by rw [← sv.lenU, hvl]
  have su := su.next hb3
  have hb3 : Below w.heap.size w w3 := hb2.trans (hb3.mono hb2.size)
  clear hb2
  have hAV := hid (show a * 2 ^ u / (b * 2 ^ u) = a / b ∧ a * 2 ^ u % (b * 2 ^ u) / 2 ^ u = a % b from
    ⟨Nat.mul_div_mul_right _ _ (Nat.pow_pos (by decide)), by rw [Nat.mul_mod_mul_right, Nat.mul_div_cancel _ (Nat.pow_pos (by decide))]⟩)
  have hA' : a * 2 ^ u < 4294967296 ^ un := by have := dig_lt (a * 2 ^ u); rwa [su.lenU] at this
  have hunb : un ≤ 17179869186 := by
    refine su.lenD (k := 17179869186) ?_
    calc a * 2 ^ u < 4294967296 ^ n * 2 ^ u := Nat.mul_lt_mul_of_pos_right hal.out (Nat.pow_pos (by decide))
      _ ≤ 4294967296 ^ n * 4294967296 := Nat.mul_le_mul_left _ (Nat.le_trans (Nat.pow_le_pow_right (by decide) hu) (by decide))
      _ = 4294967296 ^ (n + 1) := by rw [Nat.pow_succ]
      _ ≤ 4294967296 ^ 17179869186 := Nat.pow_le_pow_right (by decide) (by omega)
  generalize hVg : b * 2 ^ u = V at *
  generalize hAg : a * 2 ^ u = A at *
  clear hVg hAg
  obtain ⟨L, hL⟩ : ∃ L : Nat, (m + 1 ≤ un ∧ L + m ≤ un ∧ un ≤ L + m) ∨ (un ≤ m ∧ L ≤ 0 ∧ L ≤ 0) := ⟨un - m, by omega⟩
  have hLb : L ≤ 17179869186 := by omega
  have hAL : A < V * 4294967296 ^ L := by
    rcases hL with ⟨h1, h2, h3⟩ | ⟨h1, h2, _⟩
    · have : 4294967296 ^ m * 4294967296 ^ L ≤ V * 4294967296 ^ L := Nat.mul_le_mul_right _ f2
      rw [← Nat.pow_add, show m + L = un by omega] at this
      omega
    · obtain rfl : L = 0 := by omega
      have : 4294967296 ^ un ≤ 4294967296 ^ m := Nat.pow_le_pow_right (by decide) h1
      simp only [Nat.pow_zero, Nat.mul_one]
      omega
  have hV0 : 0 < V := Nat.lt_of_lt_of_le (Nat.pow_pos (by decide)) f2
  have hAL' := hid hAL; have hA'' := hid hA'; have f1' := hid f1; have f2' := hid f2; have f3' := hid f3; have f4' := hid f4; have hvl' := hid hvl
  clear hAL hA' f1 f2 f3 f4 hvl
  rcases hL with ⟨hL1, hL2, hL3⟩ | ⟨hL1, hL2, hL3⟩
  all_goals
    go_wp2_with (at_make; go_loud (refine wp_make rfl (.tmp 48) (.tmp 48) 108 rfl 102 _ 4 Tryz.underlying108 Tryz.infoU32 rfl _ _ _ _ L rfl rfl (by omega) (by omega) (by omega) (by omega) ?_))
    intro w4 hown _ hb4
    obtain ⟨G, hG⟩ : ∃ G, G = w3.heap.size := ⟨_, rfl⟩
    rw [← hG] at hown ⊢
    have hGw : w.heap.size ≤ G := by rw [hG]; exact hb3.size
    have hG1 : w3.heap.size ≤ G := by rw [hG]; exact Nat.le_refl _
    have hb4 : Below G w3 w4 := hb4.mono (by rw [hG]; exact Nat.le_refl _)
    have su4 := su.below hb4 hG1
    clear hG
    go_wp2_with fail
    clear hL1 hL2 hL3 hA''
    go_loopw [9, 11] (fun uv i wr => ∃ (k U : Nat) (hi : List Nat) (uo : Option Addr) (un ucap : Nat), k ≤ L ∧ i = .int .i64 ((k : Int) - 1) ∧ uv = .slice uo un ucap ∧ Sl wr uo un ucap (u32s (dig U)) ∧ Off G uo un ∧ un ≤ 17179869186 ∧ Hid (U < V * 4294967296 ^ k) ∧ Hid (A = U + V * 4294967296 ^ k * val hi) ∧ Lim hi ∧ Hid (hi.length + k = L) ∧
        wr.ownsRow G 102 1 (.slice (some ⟨G, 0, none⟩) L L) L (u32s (List.replicate k 0 ++ hi)) ∧ Below G w3 wr) (fun _ i _ => (intOf i + 1).toNat)
    case atStart => exact ⟨L, A, [], uo, un, ucap, Nat.le_refl _, rfl, rfl, su4, Off.old su hG1, hunb, hAL', hid (by simp [val]), lim_nil, hid (by simp), by simpa [u32s] using hown, hb4⟩
    case round =>
      clear su4 hown
      obtain ⟨k, U, hi, uo', un', ucap', hk, rfl, rfl, su5, hoff, hun5, hU, hAU, hlo, hlen, hown, hbel⟩ := hrel
      obtain ⟨wo, hwo⟩ : ∃ wo : World, wo = wr := ⟨_, rfl⟩
      subst hwo
      have sv5 := sv.below hbel hG1
      cases k with
      | zero =>
        have hU0 : U < V := by simpa using hU.out
        have hAU0 : A = U + V * val hi := by simpa using hAU.out
        have hqr : Hid (val hi = a / b ∧ U / 2 ^ u = a % b) := hid (by
          rw [← hAV.out.1, ← hAV.out.2, hAU0]
          exact ⟨by rw [Nat.add_mul_div_left _ _ hV0, Nat.div_eq_of_lt hU0, Nat.zero_add], by rw [Nat.add_mul_mod_self_left, Nat.mod_eq_of_lt hU0]⟩)
        have hown : wo.ownsRow G 102 1 (.slice (some ⟨G, 0, none⟩) L L) L (u32s hi) := by simpa using hown
        obtain ⟨oo, ocap, hv, osl⟩ := ownsSl hown
        injection hv with e1 e2 e3
        subst e1 e3
        clear hU0 hAU0
        go_wp2_with fail
        refine (clean_any hi _ _ _ _ osl).mono ?_; rintro e w6 ⟨⟨k', rfl, hk', hs'⟩, rfl⟩
        have Hs' := hid hs'; clear hs'
        have s7 := takeU osl hk' Hs'.out
        rw [strip_eq hlo, hqr.out.1] at s7
        go_wp2_with fail
        refine (rightD U _ u rfl (by omega) su5 (by omega)).mono ?_; rintro e w7 ⟨ro, rn, rcap, rfl, sr, hzr, hb7, _⟩
        rw [hqr.out.2] at sr
        go_wp2_with fail
        go_ret2
        exact ⟨_, _, _, _, _, _, rfl, s7.next hb7, sr, (fun h => by cases h), hzr, hb3.trans ((hbel.mono hGw).trans (hb7.mono (Nat.le_trans hb3.size hbel.size)))⟩
      | succ j =>
        have hj : ((j + 1 : Nat) : Int) - 1 = j := by omega
        rw [hj]
        clear hj
        have hGo : G < wo.heap.size := (hown.lt G rfl).2
        have hUB : Hid (U < 4294967296 ^ (m + j + 2)) := hid (by
          have h1 := hU.out
          have h2 : V * 4294967296 ^ (j + 1) < 4294967296 ^ (m + 1) * 4294967296 ^ (j + 1) := Nat.mul_lt_mul_of_pos_right f1'.out (Nat.pow_pos (by decide))
          rw [← Nat.pow_add, show m + 1 + (j + 1) = m + j + 2 by omega] at h2
          omega)
        have htt := top_two hUB.out
        obtain ⟨c1, hc1⟩ : ∃ c1, U / 4294967296 ^ (m + j + 1) % 4294967296 = c1 := ⟨_, rfl⟩
        obtain ⟨c0, hc0⟩ : ∃ c0, U / 4294967296 ^ (m + j) % 4294967296 = c0 := ⟨_, rfl⟩
        obtain ⟨vt, hvt⟩ : ∃ vt, V / 4294967296 ^ m % 4294967296 = vt := ⟨_, rfl⟩
        have hvt' : V / 4294967296 ^ m = vt := by rw [← hvt, Nat.mod_eq_of_lt f4'.out]
        have hc1l : c1 < 4294967296 := by rw [← hc1]; exact Nat.mod_lt _ (by decide)
        have hc0l : c0 < 4294967296 := by rw [← hc0]; exact Nat.mod_lt _ (by decide)
        have hvtl : vt < 4294967296 := by rw [← hvt]; exact Nat.mod_lt _ (by decide)
        have hvt0 : 1 ≤ vt := by rw [← hvt']; exact f3'.out
        rw [hc1, hc0] at htt
        obtain ⟨z, hz⟩ : ∃ z : Nat, (c1 : Int) * 4294967296 + c0 = z := ⟨c1 * 4294967296 + c0, by simp⟩
        have hzn : c1 * 4294967296 + c0 = z := by omega
        rw [hzn] at htt
        have hzl : z ≤ 18446744073709551615 := by omega
        have hor := or_shl c1 c0 hc1l hc0l
        rw [hz] at hor
        obtain ⟨hg1, hg2⟩ := guess_ge (B := 4294967296) (m := m) (by rw [← hvt']; exact Nat.div_mul_le_self _ _) hU.out hvt0 hV0 (by decide)
        rw [← htt] at hg1
        obtain ⟨q0, hq0⟩ : ∃ q0, z / vt = q0 := ⟨_, rfl⟩
        have hq0z : q0 ≤ z := by rw [← hq0]; exact Nat.div_le_self _ _
        have hwq : IntKind.u64.wrap ((z : Int) / vt) = (q0 : Int) := by
          have e : ((z / vt : Nat) : Int) = (z : Int) / vt := by simp
          rw [← e, hq0, wrapU]; omega
        rw [hq0] at hg1
        clear hq0
        obtain ⟨g, hg⟩ : ∃ g : Nat, min (q0 : Int) 4294967295 = g := ⟨min q0 4294967295, by omega⟩
        have hgl : g < 4294967296 := by omega
        have hgq : Hid (U / (V * 4294967296 ^ j) ≤ g) := hid (by
          generalize U / (V * 4294967296 ^ j) = q at *
          omega)
        have Hc1 := hid hc1; have Hc0 := hid hc0; have Hvt := hid hvt
        clear hc1 hc0 hvt hvt' htt hz hzn hg1 hg2
        go_wp2_with fail
        refine (atD U _ (m + j + 1) c1 (by omega) Hc1.out su5).mono ?_; rintro e w5 ⟨rfl, rfl⟩
        go_wp2_with fail
        refine (atD U _ (m + j) c0 (by omega) Hc0.out su5).mono ?_; rintro e w5 ⟨rfl, rfl⟩
        go_wp2_with fail
        refine (atD V _ m vt (by omega) Hvt.out sv5).mono ?_; rintro e w5 ⟨rfl, rfl⟩
        clear hor
        obtain ⟨s6, hl6, hv6⟩ := one_limb (w := wo) g hgl
        have hv6 := hid hv6
        go_wp2_with fail
        refine (clean_any [g] _ _ _ _ s6).mono ?_; rintro e w6 ⟨⟨k6, rfl, hk6, hs6⟩, rfl⟩
        have s7 := takeU s6 hk6 hs6
        rw [strip_eq hl6, hv6.out] at s7
        have Hs6 := hid hs6; clear hs6 s6
        have b6 : Below wo.heap.size wo (wo.alloc (.cells #[.int .u32 (g : Int)] 102)) := below_alloc _
        go_wp2_with fail
        refine (timesD V g (sv5.next b6) s7 (by omega) (by omega)).mono ?_; rintro e w7 ⟨po, pn, pcap, rfl, sp, hzp, hb7, _⟩
        have hb7 : Below wo.heap.size wo w7 := b6.trans (hb7.mono b6.size)
        clear b6 s7
        have hpn : pn ≤ m + 2 := sp.lenD (by
          have h1 : V * g < 4294967296 ^ (m + 1) * 4294967296 := Nat.mul_lt_mul'' f1'.out hgl
          rwa [← Nat.pow_succ] at h1)
        go_wp2_with fail
        refine (leftD (V * g) _ (32 * j) (by omega) (by omega) sp (by omega)).mono ?_; rintro e w8 ⟨po8, pn8, pcap8, rfl, sp8, hzp8, hb8, _⟩
        have hb8 : Below wo.heap.size wo w8 := hb7.trans (hb8.mono hb7.size)
        have h32 : ∀ q : Nat, q * 2 ^ (32 * j) = q * 4294967296 ^ j := fun q => by rw [Nat.pow_mul]
        rw [h32] at sp8
        clear sp hb7 hzp hzp8 hpn
        have hUl := hid (dig_lt U)
        have hulen := su5.lenU
        have hPlt : ∀ h : Nat, h < 4294967296 → V * h * 4294967296 ^ j < 4294967296 ^ (m + 2 + j) := fun h hh => by
          have h1 : V * h < 4294967296 ^ (m + 1) * 4294967296 := Nat.mul_lt_mul'' f1'.out hh
          rw [← Nat.pow_succ] at h1
          rw [Nat.pow_add]
          exact Nat.mul_lt_mul_of_pos_right h1 (Nat.pow_pos (by decide))
        have HPlt := hid hPlt; have Hulen := hid hulen
        clear hPlt hulen
        have su8 := su5.next hb8
        have sv8 := sv5.next hb8
        have hP0 : 0 < V * 4294967296 ^ j := Nat.mul_pos hV0 (Nat.pow_pos (by decide))
        have HP0 := hid hP0; clear hP0
        have hPe : ∀ h : Nat, V * h * 4294967296 ^ j = h * (V * 4294967296 ^ j) := fun h => by rw [Nat.mul_comm V h, Nat.mul_assoc]
        have HPe := hid hPe; clear hPe
        have H32 := hid h32; clear h32
        go_wp2_with fail
        go_loopw [13, 14] (fun gv pv wr => ∃ (h : Nat) (po : Option Addr) (pn pcap : Nat), gv = .int .u64 h ∧ pv = .slice po pn pcap ∧ Sl wr po pn pcap (u32s (dig (V * h * 4294967296 ^ j))) ∧ Hid (U / (V * 4294967296 ^ j) ≤ h) ∧ h < 4294967296 ∧ Below w8.heap.size w8 wr) (fun gv _ _ => (intOf gv).toNat)
        case atStart => exact ⟨g, po8, pn8, pcap8, rfl, rfl, sp8, hgq, hgl, Below.refl _ _⟩
        case round =>
          clear sp8 hgq hgl hg
          obtain ⟨h, po, pn, pcap, rfl, rfl, sp, hhq, hhl, hbi⟩ := hrel
          have hpn := sp.lenD (HPlt.out h hhl)
          have su9 := su8.next hbi
          have sv9 := sv8.next hbi
          have hbi8 : Below wo.heap.size wo wr := hb8.trans (hbi.mono hb8.size)
          go_wp2_with fail
          refine (cmpD U _ su9 sp).mono ?_; rintro e w9 ⟨rfl, rfl⟩
          by_cases hle : V * h * 4294967296 ^ j ≤ U
          · have ho : 0 ≤ ord U (V * h * 4294967296 ^ j) := by
              unfold ord; rw [if_neg (by omega)]; split <;> decide
            generalize ord U (V * h * 4294967296 ^ j) = r at ho
            obtain ⟨e1, e2, e3⟩ := guess_eq HP0.out hhq.out (by rw [← HPe.out]; exact hle)
            rw [← HPe.out] at e2 e3
            have He2 := hid e2; have He3 := hid e3
            clear e1 e2 e3
            have hle' := hid hle; clear hle
            go_wp2_with fail
            refine (minusD U _ hle'.out su9 sp (by omega) (by omega)).mono ?_; rintro e w10 ⟨uo10, un10, ucap10, rfl, su10, hz10, hb10, fr10⟩
            have hb10 : Below wo.heap.size wo w10 := hbi8.trans (hb10.mono hbi8.size)
            have hown10 := ownsRow_below hown hb10 (Nat.le_refl _)
            obtain ⟨t, _, hcell, hfr⟩ := row_at hown10 (show j < L by omega)
            have hun10 : un10 ≤ 17179869186 := by
              have h1 := su10.lenD (k := (dig U).length) (Nat.lt_of_le_of_lt (Nat.sub_le _ _) hUl.out)
              rw [Hulen.out] at h1; omega
            have fin : (w10.setCell ⟨G, j, none⟩ (.int .u32 (h : Int))).ownsRow G 102 1 (.slice (some ⟨G, 0, none⟩) L L) L (u32s (List.replicate j 0 ++ h :: hi)) := by
              have := row_store hown10 (k := j) h
              rwa [List.replicate_succ', List.append_assoc, List.singleton_append, set_mid (by simp), List.append_assoc, List.singleton_append] at this
            have finb : Below G w3 (w10.setCell ⟨G, j, none⟩ (.int .u32 (h : Int))) :=
              (hbel.trans (hb10.mono (Nat.le_of_lt hGo))).setCell (Nat.le_refl _) _
            have hoff10 : Off G uo10 un10 := Off.fresh fr10 (Nat.lt_of_lt_of_le hGo hbi8.size)
            have Fin := hid (And.intro fin finb); clear fin finb
            have hAU2 : Hid (A = (U - V * h * 4294967296 ^ j) + V * 4294967296 ^ j * val (h :: hi)) := hid (by
              rw [val, Nat.mul_add, ← Nat.add_assoc, ← He3.out, hAU.out, Nat.pow_succ, Nat.mul_assoc, Nat.mul_assoc, Nat.mul_assoc])
            go_wp2_with fail
            go_roundw
            case rel => exact ⟨j, _, h :: hi, uo10, un10, ucap10, by omega, rfl, rfl, su10.setCell hoff10 j _, hoff10, hun10, He2, hAU2, lim_cons.2 ⟨hhl, hlo⟩, hid (by have := hlen.out; simp only [List.length_cons]; omega), Fin.out.1, Fin.out.2⟩
            case measure => simp [intOf]
          · have ho : ord U (V * h * 4294967296 ^ j) < 0 := by
              unfold ord; rw [if_pos (by omega)]; decide
            generalize ord U (V * h * 4294967296 ^ j) = r at ho
            obtain ⟨e1, e2⟩ := guess_gt HP0.out (g := h) (by rw [← HPe.out]; exact hle)
            have He2 := hid e2; clear e2
            have hPle : Hid (V * 4294967296 ^ j ≤ V * h * 4294967296 ^ j ∧ V * h * 4294967296 ^ j - V * 4294967296 ^ j = V * (h - 1) * 4294967296 ^ j) := hid (by
              rw [HPe.out, HPe.out]
              refine ⟨Nat.le_mul_of_pos_left _ e1, ?_⟩
              rw [Nat.sub_mul, Nat.one_mul])
            clear hle
            go_wp2_with fail
            refine (leftD V _ (32 * j) (by omega) (by omega) sv9 (by omega)).mono ?_; rintro e w10 ⟨lo, ln, lcap, rfl, sl, hzl, hb10, _⟩
            rw [H32.out] at sl
            have hln := sl.lenD (k := m + 2 + j) (by
              have := HPlt.out 1 (by decide)
              rwa [Nat.mul_one] at this)
            go_wp2_with fail
            refine (minusD _ _ hPle.out.1 (sp.next hb10) sl (by omega) (by omega)).mono ?_; rintro e w11 ⟨po11, pn11, pcap11, rfl, sp11, hz11, hb11, _⟩
            rw [hPle.out.2] at sp11
            have hb11 : Below w8.heap.size w8 w11 := hbi.trans ((hb10.trans (hb11.mono hb10.size)).mono hbi.size)
            go_wp2_with fail
            go_roundw
            case rel => exact ⟨h - 1, po11, pn11, pcap11, by go_num, rfl, sp11, He2, by omega, hb11⟩
            case measure => simp [intOf]; omega

end Go.Proofs.YtgohfieleckmgaaGreatDoor

/-
  The contracts of limbs.over, gcd, rational.one, slices.Clone over limbs. Conditions: the divisor is not 0; sizes.
-/
namespace Go.Proofs.YtgohfieleckmgaaGreatDoor
open Go.RowKit

theorem over_any (a b : Nat) (hb : b ≠ 0) (ao bo : Option Addr) (n m cap cap' : Nat) (w : World) (hA : Sl w ao n cap (u32s (dig a))) (hB : Sl w bo m cap' (u32s (dig b))) (hn : n ≤ 17179869184) (hm : m ≤ 17179869184) :
    Calls Tryz.prog 135 #[.slice ao n cap, .slice bo m cap'] w (DivOut w (a / b) (a % b)) := by
  have hl := hB.lenU
  have hpos : dig b ≠ [] := fun h => hb (dig_nil.1 h)
  cases m with
  | zero => exact absurd (List.eq_nil_of_length_eq_zero hl) hpos
  | succ m =>
    cases m with
    | zero =>
      have hb1 : b < 4294967296 := by have := dig_lt b; rw [hl] at this; simpa using this
      exact overOne_any a b (Nat.pos_of_ne_zero hb) hb1 ao bo n cap cap' w hA hB hn
    | succ m => exact overMany_any a b (m + 1) (by omega) hl ao bo n cap cap' w hA hB hn (by omega)

/-- A number comes back, in memory of whatever age. -/
def NumRes (w : World) (r : Nat) (e : Ending) (w' : World) : Prop :=
  ∃ ao k cap, e = .returned (.slice ao k cap) ∧ Sl w' ao k cap (u32s (dig r)) ∧ (ao = none → cap = 0) ∧ Below w.heap.size w w'

set_option maxHeartbeats 1000000 in
theorem gcd_any (a b : Nat) (ao bo : Option Addr) (n m cap cap' : Nat) (w : World) (hA : Sl w ao n cap (u32s (dig a))) (hB : Sl w bo m cap' (u32s (dig b))) (hza : ao = none → cap = 0) (hzb : bo = none → cap' = 0) (hn : n ≤ 17179869184) (hm : m ≤ 17179869184) :
    Calls Tryz.prog 128 #[.slice ao n cap, .slice bo m cap'] w (NumRes w (Nat.gcd a b)) := by
  go_enter Tryz.func128, Tryz.ntmps128
  go_wp2_with fail
  go_loopg [0, 1] b (fun k av bv wr => ∃ (x : Nat) (xo yo : Option Addr) (xn yn xc yc : Nat), av = .slice xo xn xc ∧ bv = .slice yo yn yc ∧ Sl wr xo xn xc (u32s (dig x)) ∧ Sl wr yo yn yc (u32s (dig k)) ∧ (xo = none → xc = 0) ∧ (yo = none → yc = 0) ∧ xn ≤ 17179869184 ∧ yn ≤ 17179869184 ∧ Hid (Nat.gcd x k = Nat.gcd a b) ∧ Below w.heap.size w wr)
  case atStart => exact ⟨a, ao, bo, n, m, cap, cap', rfl, rfl, hA, hB, hza, hzb, hn, hm, hid rfl, Below.refl _ _⟩
  case round =>
    obtain ⟨x, xo, yo, xn, yn, xc, yc, rfl, rfl, sx, sy, hzx, hzy, hxn, hyn, hg, hbel⟩ := hrel
    have hyl := sy.lenU
    by_cases hk : gk = 0
    · subst hk
      rw [dig_zero] at hyl
      obtain rfl : yn = 0 := by simpa using hyl.symm
      clear hyl
      have hgx : x = Nat.gcd a b := by have := hg.out; rwa [Nat.gcd_zero_right] at this
      go_wp2_with fail
      go_ret
      exact ⟨_, _, _, rfl, by rw [← hgx]; exact sx, hzx, hbel⟩
    · have hy0 : 1 ≤ yn := by
        rw [← hyl]
        have : dig gk ≠ [] := fun h => hk (dig_nil.1 h)
        cases h : dig gk with
        | nil => exact absurd h this
        | cons _ _ => simp
      have hyl' := hid hyl; clear hyl
      have hlt : x % gk < gk := Nat.mod_lt _ (Nat.pos_of_ne_zero hk)
      have hg2 : Hid (Nat.gcd gk (x % gk) = Nat.gcd a b) := hid (by rw [← hg.out, Nat.gcd_comm gk, ← Nat.gcd_rec, Nat.gcd_comm])
      go_wp2_with fail
      refine (over_any x gk hk _ _ _ _ _ _ _ sx sy hxn hyn).mono ?_; rintro e w1 ⟨qo, qn, qc, ro, rn, rc, rfl, sq, sr, hzq, hzr, hb1⟩
      have hb2 : Below w.heap.size w w1 := hbel.trans (hb1.mono hbel.size)
      have sy1 := sy.next hb1
      have hrn : rn ≤ 17179869184 := by
        have := sr.lenD (k := yn) (Nat.lt_of_lt_of_le hlt (by rw [← hyl'.out]; exact Nat.le_of_lt (dig_lt gk)))
        omega
      go_wp2_with fail
      go_roundg (x % gk)
      case measure => exact hlt
      case rel => exact ⟨gk, yo, ro, yn, rn, yc, rc, rfl, rfl, sy1, sr, hzy, hzr, hyn, hrn, hg2, hb2⟩

theorem one_any (w : World) : Calls Tryz.prog 127 #[] w fun e w' => e = .returned (.slice (some ⟨w.heap.size, 0, none⟩) 1 1) ∧ Sl w' (some ⟨w.heap.size, 0, none⟩) 1 1 (u32s (dig 1)) ∧ Below w.heap.size w w' := by
  have h1 : dig 1 = [1] := by rw [dig_pos (by decide), dig_zero]
  go_enter Tryz.func127, Tryz.ntmps127
  go_wp2_with fail
  go_ret
  refine ⟨rfl, ?_, below_alloc _⟩
  rw [h1]
  exact (one_limb (w := w) 1 (by decide)).1

theorem cloneU_any (l : List Nat) (ao : Option Addr) (n cap : Nat) (w : World) (h : Sl w ao n cap (u32s l)) (hn : n ≤ 17592186044416) :
    Calls Tryz.prog 134 #[.slice ao n cap] w fun e w' => ∃ v, e = .returned v ∧ w'.ownsRow w.heap.size 102 1 v n (u32s l) ∧ Below w.heap.size w w' := by
  have hnil := fun w => Lib.run_eql_slice_nil (P := Tryz.prog) w 108 102 ao n cap 0 0 Tryz.underlying108
  cases ao with
  | none =>
    obtain ⟨rfl, hl⟩ := h.none_zero
    rw [hl]
    go_enter Tryz.func134, Tryz.ntmps134
    go_wp2_with fail
    go_ret
    exact ⟨_, rfl, World.ownsRow_nil _ _ _ _, Below.refl _ _⟩
  | some ad =>
    go_enter Tryz.func134, Tryz.ntmps134
    go_wp2_with (at_builtin; go_loud (refine wp_app rfl (.tmp 5) (.tmp 6) 108 rfl 102 _ 4 Tryz.underlying108 Tryz.infoU32 rfl w.heap.size _ 0 [] rfl (World.ownsRow_lit w #[] 0 (Nat.le_refl _) (by decide) rfl) (some ad) n cap (u32s l) rfl (h.next (below_alloc _)) (fun h => by cases h) (u32s_one l) (by omega) (by omega) (by simp) ?_))
    intro v' w' hown _ hb
    go_wp2_with fail
    go_ret
    exact ⟨_, rfl, by simpa using hown, (below_alloc _).trans hb⟩

end Go.Proofs.YtgohfieleckmgaaGreatDoor
