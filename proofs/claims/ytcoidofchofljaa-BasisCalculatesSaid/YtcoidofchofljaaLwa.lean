/-
  The contract of the statements' sum. No condition but sizes.
-/
import Derived.Test.YtcoidofchofljaaRrd
import Derived.Test.YtcoidofchofljaaBas
namespace Go.Proofs.Ytcoidofchofljaa
open Go.RowKit
set_option linter.unusedSimpArgs false
set_option linter.unusedVariables false

/-- The sum of multiples of the first vectors. -/
def sumK (F : Nat → V) (C : V) : Nat → V
  | 0 => zeroV
  | i + 1 => fun j => sumK F C i j + F i j * C i

theorem sumK_lin (F : Nat → V) (C : V) : ∀ m, sumK F C m = lin C ((List.range m).map F) := by
  intro m
  induction m with
  | zero => rfl
  | succ m ih =>
    rw [List.range_succ, List.map_append]
    simp only [List.map_cons, List.map_nil]
    rw [lin_snoc, ← ih]
    funext j
    show sumK F C m j + F m j * C m = _
    rw [List.length_map, List.length_range, Rat.mul_comm]

theorem sumK_fit {K K' n : Nat} {F : Nat → V} {C : V} (hK : 1 ≤ K) : ∀ i, (∀ a, a < i → ∀ j, j < n → Fit K (F a j)) → (∀ a, a < i → Fit K' (C a)) → ∀ j, j < n → Fit (1 + i * (K + K' + 1)) (sumK F C i j) := by
  intro i
  induction i with
  | zero => intro _ _ j _; exact fit_zero (by omega)
  | succ i ih =>
    intro hF hC j hj
    have h1 := ih (fun a ha => hF a (by omega)) (fun a ha => hC a (by omega)) j hj
    have h2 := fit_add h1 (fit_mul (hF i (by omega) j hj) (hC i (by omega)))
    exact h2.mono (by rw [Nat.succ_mul]; omega)

set_option maxHeartbeats 4000000 in
set_option maxRecDepth 100000 in
theorem sum_any (m n k K K' : Nat) (F : Nat → V) (C : V) (ao : Option Addr) (cap : Nat) (bo : Option Addr) (cap' : Nat) (w : World) (h : Mat RatV w ao m cap (fun _ => k) F) (h' : Vec RatV w bo n cap' C) (hm : m ≤ 1000) (hn : n = m) (hk : k ≤ 1000) (hK : 1 ≤ K)
    (hF : ∀ a, a < m → ∀ j, j < k → Fit K (F a j)) (hC : ∀ a, a < m → Fit K' (C a)) (hb1 : K ≤ 100000) (hb2 : K' ≤ 100000) :
    Calls Try.prog 13 #[.slice ao m cap, .slice bo n cap', .int .i64 k] w (VecOut w k (sumK F C m)) := by
  subst hn
  have hfit := hid (fun i (hi : i ≤ n) => sumK_fit (n := k) (F := F) (C := C) hK i (fun a ha => hF a (by omega)) (fun a ha => hC a (by omega)))
  have HF := hid hF
  have HC := hid hC
  clear hF hC
  go_enter Try.func13, Try.ntmps13
  go_wp2_with (at_make; go_loud (refine wp_makeV rfl (.tmp 10) (.tmp 10) rfl _ _ _ _ k rfl rfl rfl rfl (by omega) ?_))
  intro w1 hown1 hbm1
  go_wp2_with fail
  go_loopw [8] (fun iv wr => ∃ i : Nat, i ≤ n ∧ iv = .int .i64 i ∧ VOwn wr w.heap.size (.slice (some ⟨w.heap.size, 0, none⟩) k k) k (sumK F C i) ∧ Below w.heap.size w wr) (fun i _ => n - (intOf i).toNat)
  case atStart => exact ⟨0, by omega, rfl, hown1, hbm1⟩
  case round =>
    clear hown1 hbm1
    obtain ⟨i, hi, rfl, hown, hbel⟩ := hrel
    by_cases hlt : i < n
    · have c1 : decide (i < n) = true := decide_eq_true hlt
      have c2 : decide ((i : Int) < (n : Int)) = true := decide_eq_true (by omega)
      rename World => W0
      go_wp2_with fail
      go_loopw [9] (fun jv wr => ∃ j : Nat, j ≤ k ∧ jv = .int .i64 j ∧ VOwn wr w.heap.size (.slice (some ⟨w.heap.size, 0, none⟩) k k) k (fun q => if q < j then sumK F C (i + 1) q else sumK F C i q) ∧ Below w.heap.size w wr) (fun j _ => k - (intOf j).toNat)
      case atStart => exact ⟨0, by omega, rfl, hown.congr (fun q _ => by rw [if_neg (by omega)]), hbel⟩
      case round =>
        clear hown hbel
        obtain ⟨j, hj, rfl, hown, hbel⟩ := hrel
        by_cases hjk : j < k
        · obtain ⟨b, o, rfl, ro, rc, hcell, hv⟩ := (h.nextV hbel).get hlt
          obtain ⟨bv, ov, ev, s1, x1, n1, k1, y1, l1, d1, a1, a2, a3, rA⟩ := hv.get hjk
          subst ev
          obtain ⟨bc, oc, ec, s2, x2, n2, k2, y2, l2, d2, b1, b2, b3, rC⟩ := (h'.nextV hbel).get hlt
          subst ec
          obtain ⟨s3, x3, n3, k3, y3, l3, d3, e1, e2, e3, e4, e5, e6, rO⟩ := hown.room hjk
          simp only [Nat.lt_irrefl, if_false] at rO
          have i0 : (0 : Int) ≤ (i : Int) := by omega
          have i1 : (i : Int) < (n : Int) := by omega
          have j0 : (0 : Int) ≤ (j : Int) := by omega
          have j1 : (j : Int) < (k : Int) := by omega
          have hfO := hfit.out i hi j hjk
          have hmul : i * (K + K' + 1) ≤ 1000 * (K + K' + 1) := Nat.mul_le_mul_right _ (by omega)
          have hmul2 : 1000 * (K + K' + 1) ≤ 1000 * 200001 := Nat.mul_le_mul_left _ (by omega)
          rename World => X5
          have hdd : Below X5.heap.size X5 X5.drew := (Below.refl _ _).drew
          have fO := hfO
          have rO2 := (rO.toV fO (by omega)).next hdd
          have hS0 : E1 b (o + i) (.slice (some ⟨bv, ov, none⟩) k rc) X5.drew ∧ E3 bv (ov + j * 3) (.bool s1) (.slice x1 n1 k1) (.slice y1 l1 d1) X5.drew ∧ E3 bc (oc + i * 3) (.bool s2) (.slice x2 n2 k2) (.slice y2 l2 d2) X5.drew ∧ E3 w.heap.size (j * 3) (.bool s3) (.slice x3 n3 k3) (.slice y3 l3 d3) X5.drew := ⟨E1.next hcell hdd, E3.next ⟨a1, a2, a3⟩ hdd, E3.next ⟨b1, b2, b3⟩ hdd, E3.next ⟨e1, e2, e3⟩ hdd⟩
          have hK' : ∀ w' w'', (E1 b (o + i) (.slice (some ⟨bv, ov, none⟩) k rc) w' ∧ E3 bv (ov + j * 3) (.bool s1) (.slice x1 n1 k1) (.slice y1 l1 d1) w' ∧ E3 bc (oc + i * 3) (.bool s2) (.slice x2 n2 k2) (.slice y2 l2 d2) w' ∧ E3 w.heap.size (j * 3) (.bool s3) (.slice x3 n3 k3) (.slice y3 l3 d3) w') → Below w'.heap.size w' w'' → (E1 b (o + i) (.slice (some ⟨bv, ov, none⟩) k rc) w'' ∧ E3 bv (ov + j * 3) (.bool s1) (.slice x1 n1 k1) (.slice y1 l1 d1) w'' ∧ E3 bc (oc + i * 3) (.bool s2) (.slice x2 n2 k2) (.slice y2 l2 d2) w'' ∧ E3 w.heap.size (j * 3) (.bool s3) (.slice x3 n3 k3) (.slice y3 l3 d3) w'') := fun w' w'' h hb => ⟨h.1.next hb, h.2.1.next hb, h.2.2.1.next hb, h.2.2.2.next hb⟩
          clear a1 a2 a3 b1 b2 b3 e1 e2 e3 e4 e5 e6 hcell hmul2 hfO
          go_wp2_with fail
          refine wp_region_D (fun w' => E1 b (o + i) (.slice (some ⟨bv, ov, none⟩) k rc) w' ∧ E3 bv (ov + j * 3) (.bool s1) (.slice x1 n1 k1) (.slice y1 l1 d1) w' ∧ E3 bc (oc + i * 3) (.bool s2) (.slice x2 n2 k2) (.slice y2 l2 d2) w' ∧ E3 w.heap.size (j * 3) (.bool s3) (.slice x3 n3 k3) (.slice y3 l3 d3) w') [20] (by kernel_rfl) ?_
          refine wpAnyD_take (i := 0) (v := ?_) rfl (by kernel_rfl) (by kernel_rfl) (by kernel_rfl) (by kernel_rfl) (fun _ _ _ h => h) (Or.inl ⟨by rfl, ?_⟩) hS0 ?_
          rotate_left
          · intro w _; first | (go_simp; done) | (go_simp; with_reducible rfl)
          refine wpAnyD_take (i := 1) (v := ?_) rfl (by kernel_rfl) (by kernel_rfl) (by kernel_rfl) (by kernel_rfl) (fun _ _ _ h => h) (Or.inl ⟨by rfl, ?_⟩) hS0 ?_
          rotate_left
          · intro w _; first | (go_simp; done) | (go_simp; with_reducible rfl)
          refine wpAnyD_take (i := 2) (v := ?_) rfl (by kernel_rfl) (by kernel_rfl) (by kernel_rfl) (by kernel_rfl) (fun _ _ _ h => h) (Or.inl ⟨by rfl, ?_⟩) hS0 ?_
          rotate_left
          · intro w _; first | (go_simp; done) | (go_simp; with_reducible rfl)
          refine wpAnyD_take (i := 3) (v := ?_) rfl (by kernel_rfl) (by kernel_rfl) (by kernel_rfl) (by kernel_rfl) (fun _ _ _ h => h) (Or.inl ⟨by rfl, ?_⟩) hS0 ?_
          rotate_left
          · intro w _; first | (go_simp; done) | (go_simp; with_reducible rfl)
          refine wpAnyD_take (i := 4) (v := ?_) rfl (by kernel_rfl) (by kernel_rfl) (by kernel_rfl) (by kernel_rfl) (fun _ _ _ h => h) (Or.inl ⟨by rfl, ?_⟩) hS0 ?_
          rotate_left
          · intro w _; first | (go_simp; done) | (go_simp; with_reducible rfl)
          refine wpAnyD_take (i := 6) (v := ?_) rfl (by kernel_rfl) (by kernel_rfl) (by kernel_rfl) (by kernel_rfl) (fun _ _ _ h => h) (Or.inl ⟨by rfl, ?_⟩) hS0 ?_
          rotate_left
          · intro w _; first | (go_simp; done) | (go_simp; with_reducible rfl)
          refine wpAnyD_take (i := 7) (v := ?_) rfl (by kernel_rfl) (by kernel_rfl) (by kernel_rfl) (by kernel_rfl) (fun _ _ _ h => h) (Or.inl ⟨by rfl, ?_⟩) hS0 ?_
          rotate_left
          · intro w _; first | (go_simp; done) | (go_simp; with_reducible rfl)
          refine wpAnyD_take (i := 8) (v := ?_) rfl (by kernel_rfl) (by kernel_rfl) (by kernel_rfl) (by kernel_rfl) (fun _ _ _ h => h) (Or.inl ⟨by rfl, ?_⟩) hS0 ?_
          rotate_left
          · intro w _; first | (go_simp; done) | (go_simp; with_reducible rfl)
          refine wpAnyD_take (i := 10) (v := ?_) rfl (by kernel_rfl) (by kernel_rfl) (by kernel_rfl) (by kernel_rfl) (fun _ _ _ h => h) (Or.inl ⟨by rfl, ?_⟩) hS0 ?_
          rotate_left
          · intro w _; first | (go_simp; done) | (go_simp; with_reducible rfl)
          refine wpAnyD_take (i := 13) (v := ?_) rfl (by kernel_rfl) (by kernel_rfl) (by kernel_rfl) (by kernel_rfl) (fun _ _ _ h => h) (Or.inl ⟨by rfl, ?_⟩) hS0 ?_
          rotate_left
          · intro w _; first | (go_simp; done) | (go_simp; with_reducible rfl)
          refine wpAnyD_take (i := 14) (v := ?_) rfl (by kernel_rfl) (by kernel_rfl) (by kernel_rfl) (by kernel_rfl) (fun _ _ _ h => h) (Or.inl ⟨by rfl, ?_⟩) hS0 ?_
          rotate_left
          · intro w _; first | (go_simp; done) | (go_simp; with_reducible rfl)
          refine wpAnyD_take (i := 15) (v := ?_) rfl (by kernel_rfl) (by kernel_rfl) (by kernel_rfl) (by kernel_rfl) (fun _ _ _ h => h) (Or.inl ⟨by rfl, ?_⟩) hS0 ?_
          rotate_left
          · intro w _; first | (go_simp; done) | (go_simp; with_reducible rfl)
          refine wpAnyD_take (i := 5) (v := ?_) rfl (by kernel_rfl) (by kernel_rfl) (by kernel_rfl) (by kernel_rfl) (fun _ _ _ h => h) (Or.inl ⟨by rfl, ?_⟩) hS0 ?_
          rotate_left
          · intro w hw; obtain ⟨s1', ⟨s2', s3', s4'⟩, ⟨s5', s6', s7'⟩, ⟨s8', s9', sa'⟩⟩ := hw; first | (go_simp; done) | (go_simp; with_reducible rfl)
          refine wpAnyD_take (i := 9) (v := ?_) rfl (by kernel_rfl) (by kernel_rfl) (by kernel_rfl) (by kernel_rfl) (fun _ _ _ h => h) (Or.inl ⟨by rfl, ?_⟩) hS0 ?_
          rotate_left
          · intro w hw; obtain ⟨s1', ⟨s2', s3', s4'⟩, ⟨s5', s6', s7'⟩, ⟨s8', s9', sa'⟩⟩ := hw; first | (go_simp; done) | (go_simp; with_reducible rfl)
          refine wpAnyD_take (i := 11) (v := ?_) rfl (by kernel_rfl) (by kernel_rfl) (by kernel_rfl) (by kernel_rfl) (fun _ _ _ h => h) (Or.inl ⟨by rfl, ?_⟩) hS0 ?_
          rotate_left
          · intro w _; first | (go_simp; done) | (go_simp; with_reducible rfl)
          refine wpAnyD_take (i := 12) (v := ?_) rfl (by kernel_rfl) (by kernel_rfl) (by kernel_rfl) (by kernel_rfl) (fun _ _ _ h => h) (Or.inl ⟨by rfl, ?_⟩) hS0 ?_
          rotate_left
          · intro w hw; obtain ⟨s1', ⟨s2', s3', s4'⟩, ⟨s5', s6', s7'⟩, ⟨s8', s9', sa'⟩⟩ := hw; first | (go_simp; done) | (go_simp; with_reducible rfl)
          refine wpAnyD_take (i := 16) (v := ?_) rfl (by kernel_rfl) (by kernel_rfl) (by kernel_rfl) (by kernel_rfl) (fun _ _ _ h => h) (Or.inl ⟨by rfl, ?_⟩) hS0 ?_
          rotate_left
          · intro w hw; obtain ⟨s1', ⟨s2', s3', s4'⟩, ⟨s5', s6', s7'⟩, ⟨s8', s9', sa'⟩⟩ := hw; first | (go_simp; done) | (go_simp; with_reducible rfl)
          refine wpAnyD_one (i := 17) (by kernel_rfl) rfl (fun KK hKK => ?_)
          go_simp
          go_at_call 33
          refine (rMul_any (F i j) (C i) _ _ _ (rA.next hdd) (rC.next hdd) (K + K') ((HF.out i hlt j hjk).mono (by omega)) ((HC.out i hlt).mono (by omega)) (by omega)).mono ?_; rintro e w6 ⟨v6, rfl, C6, hb6⟩
          obtain ⟨sm, xm, nm, km, ym, lm, dm, rfl⟩ := C6.shape
          have hS6 := hK' _ _ hS0 hb6
          have Hs6 := hid hS6
          try go_simp
          refine hKK _ _ ⟨fun _ => hS6, ?_⟩; clear hKK KK
          refine wpAnyD_one (i := 18) (by kernel_rfl) rfl (fun KK hKK => ?_)
          go_simp
          go_at_call 32
          refine (rAdd_any (sumK F C i j) (F i j * C i) _ _ _ (rO2.next hb6) (C6.toV (fit_mul (HF.out i hlt j hjk) (HC.out i hlt)) (by omega)) (1 + i * (K + K' + 1) + (K + K')) (fO.mono (by omega)) ((fit_mul (HF.out i hlt j hjk) (HC.out i hlt)).mono (by omega)) (by omega)).mono ?_; rintro e w7 ⟨v7, rfl, C7, hb7⟩
          obtain ⟨rb, xo, xn, xc, yo, yn, yc, rfl⟩ := C7.shape
          have hS7 := hK' _ _ Hs6.out hb7
          have hown7 := ((hown.next hdd).next hb6).next hb7
          obtain ⟨s4, x4, n4, k4, y4, l4, d4, u1, u2, u3, u4, u5, u6, _⟩ := hown7.room hjk
          try go_simp
          refine hKK _ _ ⟨fun _ => hS7, ?_⟩; clear hKK KK
          refine wpAnyD_one (i := 19) (by kernel_rfl) rfl (fun KK hKK => ?_)
          go_simp
          refine hKK _ _ ⟨fun _ => hS7, ?_⟩; clear hKK KK
          refine wpAnyD_one (i := 20) (by kernel_rfl) rfl (fun KK hKK => ?_)
          go_simp
          refine hKK _ _ ⟨fun hn => absurd (by simp) hn, ?_⟩; clear hKK KK
          refine wpAnyD_done (by kernel_rfl) ?_ _
          have hbel7 := below_chain (below_chain (below_chain hbel hdd) hb6) hb7
          have hown8 := (hown7.set hjk C7).congr (G := fun q => if q < j + 1 then sumK F C (i + 1) q else sumK F C i q) (fun q hq => by
            by_cases hqj : q = j
            · subst hqj
              rw [updV_at, if_pos (by omega)]; rfl
            · rw [updV_ne _ _ hqj]
              by_cases h1 : q < j
              · rw [if_pos h1, if_pos (by omega)]
              · rw [if_neg h1, if_neg (by omega)])
          have hbel8 : Below w.heap.size w _ := hbel7.trans (below_stored3 (B := w.heap.size) (w := w7) (g := w.heap.size) (Nat.le_refl _) (j * 3) (.bool rb) (.slice xo xn xc) (.slice yo yn yc))
          clear hown7 hown C7 u1 u2 u3 u4 u5 u6 hS6 hS7 hS0
          go_wp2_with fail
          go_roundw
          case rel => exact ⟨j + 1, by omega, by go_num, hown8, hbel8⟩
          case measure => simp [intOf]; omega
        · obtain rfl : j = k := by omega
          have hown2 : VOwn _ w.heap.size (.slice (some ⟨w.heap.size, 0, none⟩) j j) j (sumK F C (i + 1)) := hown.congr (fun q hq => by rw [if_pos hq])
          clear hown
          go_wp2_with fail
          go_roundw
          case rel => exact ⟨i + 1, by omega, by go_num, hown2, hbel⟩
          case measure => simp [intOf]; omega
    · obtain rfl : i = n := by omega
      have c1 : decide (i < i) = false := decide_eq_false (by omega)
      have c2 : decide ((i : Int) < (i : Int)) = false := decide_eq_false (by omega)
      go_wp2_with fail
      go_ret
      exact ⟨_, rfl, hown, hbel⟩

end Go.Proofs.Ytcoidofchofljaa
