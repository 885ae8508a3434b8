/-
  The contract of limbs.left. No condition but sizes.
-/
import Derived.Test.YteancfcmiiddiaaLen
namespace Go.Proofs.Yteancfcmiiddiaa
open Go.RowKit

/-- 'make([]T, n, c)': a new row of zeros (one cell an element). -/
theorem wp_make2 {P : Program} {w : World} {ops : Array Oper} {rest : List Oper} {o : Oper} {a : Act} {Q : Exit → Act → World → Prop} (hgd : o.guard = none) (l c : Operand) (t : TypeId)
    (ho : o.op = Op.makeSlice t l c) (e : TypeId) (z : Value) (bytes : Nat) (ht : P.underlying t = some (.slice e))
    (hinfo : (P.info? e).map (fun i => (i.zero, i.size, i.bytes)) = some (some z, 1, bytes)) (hzs : z.cells = #[z])
    (kl kc : IntKind) (L C : Int) (n m : Nat) (hl : a.eval l = .int kl L) (hc : a.eval c = .int kc C) (hL : L = (n : Int)) (hC : C = (m : Int)) (hnm : n ≤ m)
    (hroom : bytes * m ≤ 281474976710656) (hml : m ≤ 9223372036854775807)
    (h : ∀ w', w'.ownsRow w.heap.size e 1 (.slice (some ⟨w.heap.size, 0, none⟩) n m) n (List.replicate n z) → w.grownBy w' none → Below w.heap.size w w' → wpList P ops Q rest (a.put o.dst (.slice (some ⟨w.heap.size, 0, none⟩) n m)) w') : wpList P ops Q (o :: rest) a w := by
  obtain ⟨i, hi, hz, hsz, hby⟩ := info_parts hinfo
  subst hL hC
  refine wpList_plain hgd fun K hK' => ?_
  have hrun := run_make (P := P) w t e i z ht hi hz kl kc n m (by omega) (by omega) (by
    have := Int.natCast_mul bytes m
    rw [hby]; omega) (by omega)
  unfold Oper.wp
  simp only [execOp, ho, hl, hc, hrun, Int.toNat_natCast, Sem.run_bind, Result.andThen, Sem.run_pure, Oper.upon_value]
  refine hK' _ _ (h _ ?_ (World.grownBy_alloc _ _ _) (below_alloc _))
  refine ⟨by simp, .inr ⟨w.heap.size, m, _, rfl, Nat.le_refl _, heap_alloc_new w _, hnm, by unfold maxLen; omega, by rw [size_madeCells, hsz], ?_⟩⟩
  rw [hzs, hsz, toList_madeCells_one, List.take_replicate]
  congr 1; omega

/-- One round of left. -/
theorem left_step {a i c s x : Nat} {o : List Nat} (hlen : o.length = i) (h : val o + 4294967296 ^ i * c = (a % 4294967296 ^ i) * 2 ^ s) (hx : x = a / 4294967296 ^ i % 4294967296) :
    val (o ++ [(c + x * 2 ^ s) % 4294967296]) + 4294967296 ^ (i + 1) * ((c + x * 2 ^ s) / 4294967296) = (a % 4294967296 ^ (i + 1)) * 2 ^ s := by
  rw [val_append, hlen, mod_step a i, ← hx, Nat.pow_succ, Nat.add_mul, ← h]
  simp only [val]
  generalize 4294967296 ^ i = p at *
  have h1 := Nat.mod_add_div (c + x * 2 ^ s) 4294967296
  generalize (c + x * 2 ^ s) % 4294967296 = r at *
  generalize (c + x * 2 ^ s) / 4294967296 = q at *
  have h2 : p * (r + 4294967296 * q) = p * (c + x * 2 ^ s) := by rw [h1]
  simp only [Nat.mul_add, Nat.mul_zero, Nat.add_zero, ← Nat.mul_assoc] at h2 ⊢
  omega

theorem shl_or {s c x : Nat} (hs : s < 32) (hc : c < 2 ^ s) (hx : x < 4294967296) : ∃ y z : Nat, IntKind.u64.wrap ((x : Int) * 2 ^ s) = (y : Int) ∧ bits .or .u64 (c : Int) (y : Int) = (z : Int) ∧ z = c + x * 2 ^ s ∧ z / 4294967296 < 2 ^ s ∧ z < 9223372036854775808 := by
  have h31 : 2 ^ s ≤ 2147483648 := Nat.le_trans (Nat.pow_le_pow_right (by decide) (show s ≤ 31 by omega)) (by decide)
  have h1 : x * 2 ^ s + 2 ^ s ≤ 4294967296 * 2 ^ s := by
    have := Nat.mul_le_mul_right (2 ^ s) (show x + 1 ≤ 4294967296 by omega)
    rw [Nat.add_mul, Nat.one_mul] at this; exact this
  refine ⟨x * 2 ^ s, c + x * 2 ^ s, ?_, ?_, rfl, by rw [Nat.div_lt_iff_lt_mul (by decide)]; omega, by omega⟩
  · have e : ((x * 2 ^ s : Nat) : Int) = (x : Int) * 2 ^ s := by simp
    rw [← e, wrapU]
    exact (fun (q : Nat) (h : q < 18446744073709551616) => (by omega : (q : Int) % 18446744073709551616 = q)) _ (by omega)
  · rw [u64_or_nat _ _ (by omega) (by omega)]
    congr 1
    rw [Nat.or_comm, ← Nat.shiftLeft_eq, ← Nat.shiftLeft_add_eq_or_of_lt hc, Nat.add_comm]

set_option maxHeartbeats 2000000 in
theorem left_any (a : List Nat) (ha : Lim a) (k : Nat) (hk : k ≤ 1099511627776) (ao : Option Addr) (n cap : Nat) (w : World) (hA : Sl w ao n cap (u32s a)) (hn : n ≤ 1099511627776) :
    Calls Try.prog 131 #[.slice ao n cap, .int .i64 (k : Int)] w (NumOut w (val a * 2 ^ k)) := by
  have hla := hid hA.lenU
  have ha' := hid (limb_at ha)
  obtain ⟨K, hK⟩ : ∃ K : Nat, (k : Int) / 32 = K := ⟨k / 32, rfl⟩
  obtain ⟨s, hs⟩ : ∃ s : Nat, (k : Int) % 32 = s := ⟨k % 32, rfl⟩
  have hks : Hid (k = 32 * K + s) := hid (by omega)
  have hs32 : s < 32 := by omega
  have hKb : K ≤ 34359738368 := by omega
  go_enter Try.func131, Try.ntmps131
  go_wp2_with (at_make; go_loud (refine wp_make2 rfl (.tmp 10) (.tmp 16) 120 rfl 64 _ 4 Try.underlying120 Try.infoU32 rfl _ _ _ _ K (K + n + 1) rfl rfl rfl rfl (by omega) (by omega) (by omega) ?_))
  intro w1 hown _ hb1
  go_wp2_with fail
  go_loopw [5, 6, 20] (fun v r i wr => ∃ (j c : Nat) (o : List Nat), j ≤ n ∧ i = .int .i64 j ∧ r = .int .u64 c ∧ c < 2 ^ s ∧ Lim o ∧ Hid (o.length = j) ∧ Hid (val o + 4294967296 ^ j * c = val a % 4294967296 ^ j * 2 ^ s) ∧
      wr.ownsRow w.heap.size 64 1 v (K + j) (u32s (List.replicate K 0 ++ o)) ∧ Below w.heap.size w wr) (fun _ _ i _ => n - (intOf i).toNat)
  case atStart => exact ⟨0, 0, [], by omega, rfl, rfl, Nat.pow_pos (by decide), lim_nil, hid rfl, hid (by simp [val, Nat.mod_one]), by simpa [u32s] using hown, hb1⟩
  case round =>
    clear hown hb1
    obtain ⟨j, c, o, hj, rfl, rfl, hc, hlo, hlen, hval, hown, hbel⟩ := hrel
    by_cases hlt : j < n
    · have hA1 := hA.next hbel
      obtain ⟨x, hx', b, off, rfl, hcell⟩ := hA1.u32 hlt
      have hxl := ha x (List.mem_of_getElem? hx')
      have hxe : x = val a / 4294967296 ^ j % 4294967296 := by rw [← ha'.out j, List.getD, hx']; rfl
      have hst := hid (left_step hlen.out hval.out hxe)
      clear hx' hxe
      obtain ⟨y, z, hw, hor, hz, hp2, hz3⟩ := shl_or hs32 hc hxl
      rw [← hz] at hst
      have Hp2 := hid hp2
      clear hp2 hz
      have hlit : Sl (wr.alloc (.cells #[.int .u32 ((z : Int) % 4294967296)] 64)) (some ⟨wr.heap.size, 0, none⟩) 1 1 (u32s [z % 4294967296]) := by
        have := Sl.lit wr [.int .u32 ((z : Int) % 4294967296)] 64 (by simp [maxLen])
        simpa [u32s] using this
      go_wp2_with (at_builtin; go_loud (refine wp_app rfl (.tmp 31) (.tmp 34) 120 rfl 64 _ 4 Try.underlying120 Try.infoU32 rfl w.heap.size _ (K + j) _ rfl (hown.alloc _) _ 1 1 _ rfl hlit (fun h => by cases h) (u32s_one _) (by omega) (by omega) (by have := hbel.size; simp only [World.size_alloc]; omega) ?_))
      intro v' w2 hown2 hg2 hb2
      have hbel2 : Below w.heap.size w w2 := (hbel.alloc hbel.size _).trans hb2
      have hown3 : w2.ownsRow w.heap.size 64 1 v' (K + (j + 1)) (u32s (List.replicate K 0 ++ (o ++ [z % 4294967296]))) := by
        have : K + (j + 1) = K + j + 1 := by omega
        rw [this, ← List.append_assoc]; simpa [u32s] using hown2
      clear hown2
      go_wp2_with fail
      go_roundw
      case rel => exact ⟨j + 1, z / 4294967296, o ++ [z % 4294967296], by omega, by go_num, by simp, Hp2.out, lim_append.2 ⟨hlo, lim_cons.2 ⟨Nat.mod_lt _ (by decide), lim_nil⟩⟩, hid (by rw [List.length_append, hlen.out]; rfl), hst.out, hown3, hbel2⟩
      case measure => simp [intOf]; omega
    · obtain rfl : j = n := by omega
      have hc31 : c < 4294967296 := Nat.lt_of_lt_of_le hc (Nat.le_trans (Nat.pow_le_pow_right (by decide) (show s ≤ 31 by omega)) (by decide))
      have hres : Hid (val (List.replicate K 0 ++ (o ++ [c])) = val a * 2 ^ k) := hid (by
        have h1 := hval.out
        rw [Nat.mod_eq_of_lt (by have := val_lt ha; rwa [hla.out] at this)] at h1
        have hz : ∀ j r, val (List.replicate j 0 ++ r) = 4294967296 ^ j * val r := fun j r => by
          rw [val_append]
          have : val (List.replicate j 0) = 0 := by induction j with | zero => rfl | succ j ih => simp [List.replicate_succ, val, ih]
          rw [this]; simp
        rw [hz, val_append, hlen.out]
        simp only [val, Nat.mul_zero, Nat.add_zero]
        rw [h1, hks.out, Nat.pow_add, Nat.pow_mul, Nat.mul_left_comm])
      have hlit : Sl (wr.alloc (.cells #[.int .u32 (c : Int)] 64)) (some ⟨wr.heap.size, 0, none⟩) 1 1 (u32s [c]) := Sl.lit wr [.int .u32 (c : Int)] 64 (by simp [maxLen])
      go_wp2_with (at_builtin; go_loud (refine wp_app rfl (.tmp 39) (.tmp 42) 120 rfl 64 _ 4 Try.underlying120 Try.infoU32 rfl w.heap.size _ (K + j) _ rfl (hown.alloc _) _ 1 1 _ rfl hlit (fun h => by cases h) (u32s_one _) (by omega) (by omega) (by have := hbel.size; simp only [World.size_alloc]; omega) ?_))
      intro v' w2 hown2 hg2 hb2
      have hbel2 : Below w.heap.size w w2 := (hbel.alloc hbel.size _).trans hb2
      have hown3 : w2.ownsRow w.heap.size 64 1 v' (K + j + 1) (u32s (List.replicate K 0 ++ (o ++ [c]))) := by
        rw [← List.append_assoc]; simpa [u32s] using hown2
      clear hown2
      have hl3 : Lim (List.replicate K 0 ++ (o ++ [c])) := lim_append.2 ⟨fun x hx => by rw [(List.mem_replicate.1 hx).2]; decide, lim_append.2 ⟨hlo, lim_cons.2 ⟨hc31, lim_nil⟩⟩⟩
      obtain ⟨oo, ocap, rfl, osl⟩ := ownsSl hown3
      go_wp2_with fail
      refine (clean_any _ _ _ _ _ osl).mono ?_; rintro e w3 ⟨⟨k', rfl, hk', hs'⟩, rfl⟩
      have Hs' := hid hs'; clear hs'
      go_wp2_with fail
      go_ret
      exact NumOut.ofOwn hown3 hl3 hres.out hk' Hs'.out hbel2

end Go.Proofs.Yteancfcmiiddiaa
