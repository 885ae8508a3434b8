/-
  The contract of limbs.over where the divisor has two limbs or more.
-/
import Derived.Test.YteancfcmiiddiaaLimJ
namespace Go.Proofs.Yteancfcmiiddiaa
open Go.RowKit

set_option maxHeartbeats 4000000 in
theorem overMany_any (a b m : Nat) (hm1 : 1 ≤ m) (hbl : (dig b).length = m + 1) (ao bo : Option Addr) (n cap cap' : Nat) (w : World) (hA : Sl w ao n cap (u32s (dig a))) (hB : Sl w bo (m + 1) cap' (u32s (dig b))) (hn : n ≤ 17179869184) (hm : m ≤ 17179869184) :
    Calls Try.prog 132 #[.slice ao n cap, .slice bo (m + 1) cap'] w (DivOut w (a / b) (a % b)) := by
  obtain ⟨x, hx, hx0, hxe, hbm⟩ := top_limb hbl
  have hal : Hid (a < 4294967296 ^ n) := hid (by have := dig_lt a; rwa [hA.lenU] at this)
  go_enter Try.func132, Try.ntmps132
  go_wp2_with fail
  refine (length_any (dig b) (lim_dig b) m x hx hx0 _ _ _ hB (by omega)).mono ?_; rintro e w1 ⟨⟨u, rfl, hu, hu1, hu2⟩, rfl⟩
  obtain ⟨f1, f2, f3, f4⟩ := norm_facts (B := 4294967296) (by decide) hxe hu hu1 hu2
  have hvl := dig_len_eq f1 f2
  have hx' := hid hx; have hxe' := hid hxe; have hbm' := hid hbm; have hbl' := hid hbl
  clear hx hxe hbm hbl hu1 hu2 hx0
  have hup : 32 * ((m : Int) + 1) - (32 * ((m : Int) + 1) - u) = u := by omega
  go_wp2_with fail
  refine (leftD a _ u rfl (by omega) hA (by omega)).mono ?_; rintro e w2 ⟨uo, un, ucap, rfl, su, hz2, hb2, _⟩
  go_wp2_with fail
  refine (leftD b _ u rfl (by omega) (hB.next hb2) (by omega)).mono ?_; rintro e w3 ⟨vo, vn, vcap, rfl, sv, hz3, hb3, _⟩
  obtain rfl : vn = m + 1 := by rw [← sv.lenU, hvl]
  have su := su.next hb3
  have hb3 : Below w.heap.size w w3 := hb2.trans (hb3.mono hb2.size)
  clear hb2
  have hAV := hid (show a * 2 ^ u / (b * 2 ^ u) = a / b ∧ a * 2 ^ u % (b * 2 ^ u) / 2 ^ u = a % b from
    ⟨Nat.mul_div_mul_right _ _ (Nat.pow_pos (by decide)), by rw [Nat.mul_mod_mul_right, Nat.mul_div_cancel _ (Nat.pow_pos (by decide))]⟩)
  have hA' : a * 2 ^ u < 4294967296 ^ un := by have := dig_lt (a * 2 ^ u); rwa [su.lenU] at this
  have hunb : un ≤ 17179869186 := by
    refine su.lenD (k := 17179869186) ?_
    calc a * 2 ^ u < 4294967296 ^ n * 2 ^ u := Nat.mul_lt_mul_of_pos_right hal.out (Nat.pow_pos (by decide))
      _ ≤ 4294967296 ^ n * 4294967296 := Nat.mul_le_mul_left _ (Nat.le_trans (Nat.pow_le_pow_right (by decide) hu) (by decide))
      _ = 4294967296 ^ (n + 1) := by rw [Nat.pow_succ]
      _ ≤ 4294967296 ^ 17179869186 := Nat.pow_le_pow_right (by decide) (by omega)
  generalize hVg : b * 2 ^ u = V at *
  generalize hAg : a * 2 ^ u = A at *
  clear hVg hAg
  obtain ⟨L, hL⟩ : ∃ L : Nat, (m + 1 ≤ un ∧ L + m ≤ un ∧ un ≤ L + m) ∨ (un ≤ m ∧ L ≤ 0 ∧ L ≤ 0) := ⟨un - m, by omega⟩
  have hLb : L ≤ 17179869186 := by omega
  have hAL : A < V * 4294967296 ^ L := by
    rcases hL with ⟨h1, h2, h3⟩ | ⟨h1, h2, _⟩
    · have : 4294967296 ^ m * 4294967296 ^ L ≤ V * 4294967296 ^ L := Nat.mul_le_mul_right _ f2
      rw [← Nat.pow_add, show m + L = un by omega] at this
      omega
    · obtain rfl : L = 0 := by omega
      have : 4294967296 ^ un ≤ 4294967296 ^ m := Nat.pow_le_pow_right (by decide) h1
      simp only [Nat.pow_zero, Nat.mul_one]
      omega
  have hV0 : 0 < V := Nat.lt_of_lt_of_le (Nat.pow_pos (by decide)) f2
  have hAL' := hid hAL; have hA'' := hid hA'; have f1' := hid f1; have f2' := hid f2; have f3' := hid f3; have f4' := hid f4; have hvl' := hid hvl
  clear hAL hA' f1 f2 f3 f4 hvl
  rcases hL with ⟨hL1, hL2, hL3⟩ | ⟨hL1, hL2, hL3⟩
  all_goals
    go_wp2_with (at_make; go_loud (refine wp_make rfl (.tmp 48) (.tmp 48) 120 rfl 64 _ 4 Try.underlying120 Try.infoU32 rfl _ _ _ _ L rfl rfl (by omega) (by omega) (by omega) (by omega) ?_))
    intro w4 hown _ hb4
    obtain ⟨G, hG⟩ : ∃ G, G = w3.heap.size := ⟨_, rfl⟩
    rw [← hG] at hown ⊢
    have hGw : w.heap.size ≤ G := by rw [hG]; exact hb3.size
    have hG1 : w3.heap.size ≤ G := by rw [hG]; exact Nat.le_refl _
    have hb4 : Below G w3 w4 := hb4.mono (by rw [hG]; exact Nat.le_refl _)
    have su4 := su.below hb4 hG1
    clear hG
    go_wp2_with fail
    clear hL1 hL2 hL3 hA''
    go_loopw [9, 11] (fun uv i wr => ∃ (k U : Nat) (hi : List Nat) (uo : Option Addr) (un ucap : Nat), k ≤ L ∧ i = .int .i64 ((k : Int) - 1) ∧ uv = .slice uo un ucap ∧ Sl wr uo un ucap (u32s (dig U)) ∧ Off G uo un ∧ un ≤ 17179869186 ∧ Hid (U < V * 4294967296 ^ k) ∧ Hid (A = U + V * 4294967296 ^ k * val hi) ∧ Lim hi ∧ Hid (hi.length + k = L) ∧
        wr.ownsRow G 64 1 (.slice (some ⟨G, 0, none⟩) L L) L (u32s (List.replicate k 0 ++ hi)) ∧ Below G w3 wr) (fun _ i _ => (intOf i + 1).toNat)
    case atStart => exact ⟨L, A, [], uo, un, ucap, Nat.le_refl _, rfl, rfl, su4, Off.old su hG1, hunb, hAL', hid (by simp [val]), lim_nil, hid (by simp), by simpa [u32s] using hown, hb4⟩
    case round =>
      clear su4 hown
      obtain ⟨k, U, hi, uo', un', ucap', hk, rfl, rfl, su5, hoff, hun5, hU, hAU, hlo, hlen, hown, hbel⟩ := hrel
      obtain ⟨wo, hwo⟩ : ∃ wo : World, wo = wr := ⟨_, rfl⟩
      subst hwo
      have sv5 := sv.below hbel hG1
      cases k with
      | zero =>
        have hU0 : U < V := by simpa using hU.out
        have hAU0 : A = U + V * val hi := by simpa using hAU.out
        have hqr : Hid (val hi = a / b ∧ U / 2 ^ u = a % b) := hid (by
          rw [← hAV.out.1, ← hAV.out.2, hAU0]
          exact ⟨by rw [Nat.add_mul_div_left _ _ hV0, Nat.div_eq_of_lt hU0, Nat.zero_add], by rw [Nat.add_mul_mod_self_left, Nat.mod_eq_of_lt hU0]⟩)
        have hown : wo.ownsRow G 64 1 (.slice (some ⟨G, 0, none⟩) L L) L (u32s hi) := by simpa using hown
        obtain ⟨oo, ocap, hv, osl⟩ := ownsSl hown
        injection hv with e1 e2 e3
        subst e1 e3
        clear hU0 hAU0
        go_wp2_with fail
        refine (clean_any hi _ _ _ _ osl).mono ?_; rintro e w6 ⟨⟨k', rfl, hk', hs'⟩, rfl⟩
        have Hs' := hid hs'; clear hs'
        have s7 := takeU osl hk' Hs'.out
        rw [strip_eq hlo, hqr.out.1] at s7
        go_wp2_with fail
        refine (rightD U _ u rfl (by omega) su5 (by omega)).mono ?_; rintro e w7 ⟨ro, rn, rcap, rfl, sr, hzr, hb7, _⟩
        rw [hqr.out.2] at sr
        go_wp2_with fail
        go_ret2
        exact ⟨_, _, _, _, _, _, rfl, s7.next hb7, sr, (fun h => by cases h), hzr, hb3.trans ((hbel.mono hGw).trans (hb7.mono (Nat.le_trans hb3.size hbel.size)))⟩
      | succ j =>
        have hj : ((j + 1 : Nat) : Int) - 1 = j := by omega
        rw [hj]
        clear hj
        have hGo : G < wo.heap.size := (hown.lt G rfl).2
        have hUB : Hid (U < 4294967296 ^ (m + j + 2)) := hid (by
          have h1 := hU.out
          have h2 : V * 4294967296 ^ (j + 1) < 4294967296 ^ (m + 1) * 4294967296 ^ (j + 1) := Nat.mul_lt_mul_of_pos_right f1'.out (Nat.pow_pos (by decide))
          rw [← Nat.pow_add, show m + 1 + (j + 1) = m + j + 2 by omega] at h2
          omega)
        have htt := top_two hUB.out
        obtain ⟨c1, hc1⟩ : ∃ c1, U / 4294967296 ^ (m + j + 1) % 4294967296 = c1 := ⟨_, rfl⟩
        obtain ⟨c0, hc0⟩ : ∃ c0, U / 4294967296 ^ (m + j) % 4294967296 = c0 := ⟨_, rfl⟩
        obtain ⟨vt, hvt⟩ : ∃ vt, V / 4294967296 ^ m % 4294967296 = vt := ⟨_, rfl⟩
        have hvt' : V / 4294967296 ^ m = vt := by rw [← hvt, Nat.mod_eq_of_lt f4'.out]
        have hc1l : c1 < 4294967296 := by rw [← hc1]; exact Nat.mod_lt _ (by decide)
        have hc0l : c0 < 4294967296 := by rw [← hc0]; exact Nat.mod_lt _ (by decide)
        have hvtl : vt < 4294967296 := by rw [← hvt]; exact Nat.mod_lt _ (by decide)
        have hvt0 : 1 ≤ vt := by rw [← hvt']; exact f3'.out
        rw [hc1, hc0] at htt
        obtain ⟨z, hz⟩ : ∃ z : Nat, (c1 : Int) * 4294967296 + c0 = z := ⟨c1 * 4294967296 + c0, by simp⟩
        have hzn : c1 * 4294967296 + c0 = z := by omega
        rw [hzn] at htt
        have hzl : z ≤ 18446744073709551615 := by omega
        have hor := or_shl c1 c0 hc1l hc0l
        rw [hz] at hor
        obtain ⟨hg1, hg2⟩ := guess_ge (B := 4294967296) (m := m) (by rw [← hvt']; exact Nat.div_mul_le_self _ _) hU.out hvt0 hV0 (by decide)
        rw [← htt] at hg1
        obtain ⟨q0, hq0⟩ : ∃ q0, z / vt = q0 := ⟨_, rfl⟩
        have hq0z : q0 ≤ z := by rw [← hq0]; exact Nat.div_le_self _ _
        have hwq : IntKind.u64.wrap ((z : Int) / vt) = (q0 : Int) := by
          have e : ((z / vt : Nat) : Int) = (z : Int) / vt := by simp
          rw [← e, hq0, wrapU]; omega
        rw [hq0] at hg1
        clear hq0
        obtain ⟨g, hg⟩ : ∃ g : Nat, min (q0 : Int) 4294967295 = g := ⟨min q0 4294967295, by omega⟩
        have hgl : g < 4294967296 := by omega
        have hgq : Hid (U / (V * 4294967296 ^ j) ≤ g) := hid (by
          generalize U / (V * 4294967296 ^ j) = q at *
          omega)
        have Hc1 := hid hc1; have Hc0 := hid hc0; have Hvt := hid hvt
        clear hc1 hc0 hvt hvt' htt hz hzn hg1 hg2
        go_wp2_with fail
        refine (atD U _ (m + j + 1) c1 (by omega) Hc1.out su5).mono ?_; rintro e w5 ⟨rfl, rfl⟩
        go_wp2_with fail
        refine (atD U _ (m + j) c0 (by omega) Hc0.out su5).mono ?_; rintro e w5 ⟨rfl, rfl⟩
        go_wp2_with fail
        refine (atD V _ m vt (by omega) Hvt.out sv5).mono ?_; rintro e w5 ⟨rfl, rfl⟩
        clear hor
        obtain ⟨s6, hl6, hv6⟩ := one_limb (w := wo) g hgl
        have hv6 := hid hv6
        go_wp2_with fail
        refine (clean_any [g] _ _ _ _ s6).mono ?_; rintro e w6 ⟨⟨k6, rfl, hk6, hs6⟩, rfl⟩
        have s7 := takeU s6 hk6 hs6
        rw [strip_eq hl6, hv6.out] at s7
        have Hs6 := hid hs6; clear hs6 s6
        have b6 : Below wo.heap.size wo (wo.alloc (.cells #[.int .u32 (g : Int)] 64)) := below_alloc _
        go_wp2_with fail
        refine (timesD V g (sv5.next b6) s7 (by omega) (by omega)).mono ?_; rintro e w7 ⟨po, pn, pcap, rfl, sp, hzp, hb7, _⟩
        have hb7 : Below wo.heap.size wo w7 := b6.trans (hb7.mono b6.size)
        clear b6 s7
        have hpn : pn ≤ m + 2 := sp.lenD (by
          have h1 : V * g < 4294967296 ^ (m + 1) * 4294967296 := Nat.mul_lt_mul'' f1'.out hgl
          rwa [← Nat.pow_succ] at h1)
        go_wp2_with fail
        refine (leftD (V * g) _ (32 * j) (by omega) (by omega) sp (by omega)).mono ?_; rintro e w8 ⟨po8, pn8, pcap8, rfl, sp8, hzp8, hb8, _⟩
        have hb8 : Below wo.heap.size wo w8 := hb7.trans (hb8.mono hb7.size)
        have h32 : ∀ q : Nat, q * 2 ^ (32 * j) = q * 4294967296 ^ j := fun q => by rw [Nat.pow_mul]
        rw [h32] at sp8
        clear sp hb7 hzp hzp8 hpn
        have hUl := hid (dig_lt U)
        have hulen := su5.lenU
        have hPlt : ∀ h : Nat, h < 4294967296 → V * h * 4294967296 ^ j < 4294967296 ^ (m + 2 + j) := fun h hh => by
          have h1 : V * h < 4294967296 ^ (m + 1) * 4294967296 := Nat.mul_lt_mul'' f1'.out hh
          rw [← Nat.pow_succ] at h1
          rw [Nat.pow_add]
          exact Nat.mul_lt_mul_of_pos_right h1 (Nat.pow_pos (by decide))
        have HPlt := hid hPlt; have Hulen := hid hulen
        clear hPlt hulen
        have su8 := su5.next hb8
        have sv8 := sv5.next hb8
        have hP0 : 0 < V * 4294967296 ^ j := Nat.mul_pos hV0 (Nat.pow_pos (by decide))
        have HP0 := hid hP0; clear hP0
        have hPe : ∀ h : Nat, V * h * 4294967296 ^ j = h * (V * 4294967296 ^ j) := fun h => by rw [Nat.mul_comm V h, Nat.mul_assoc]
        have HPe := hid hPe; clear hPe
        have H32 := hid h32; clear h32
        go_wp2_with fail
        go_loopw [13, 14] (fun gv pv wr => ∃ (h : Nat) (po : Option Addr) (pn pcap : Nat), gv = .int .u64 h ∧ pv = .slice po pn pcap ∧ Sl wr po pn pcap (u32s (dig (V * h * 4294967296 ^ j))) ∧ Hid (U / (V * 4294967296 ^ j) ≤ h) ∧ h < 4294967296 ∧ Below w8.heap.size w8 wr) (fun gv _ _ => (intOf gv).toNat)
        case atStart => exact ⟨g, po8, pn8, pcap8, rfl, rfl, sp8, hgq, hgl, Below.refl _ _⟩
        case round =>
          clear sp8 hgq hgl hg
          obtain ⟨h, po, pn, pcap, rfl, rfl, sp, hhq, hhl, hbi⟩ := hrel
          have hpn := sp.lenD (HPlt.out h hhl)
          have su9 := su8.next hbi
          have sv9 := sv8.next hbi
          have hbi8 : Below wo.heap.size wo wr := hb8.trans (hbi.mono hb8.size)
          go_wp2_with fail
          refine (cmpD U _ su9 sp).mono ?_; rintro e w9 ⟨rfl, rfl⟩
          by_cases hle : V * h * 4294967296 ^ j ≤ U
          · have ho : 0 ≤ ord U (V * h * 4294967296 ^ j) := by
              unfold ord; rw [if_neg (by omega)]; split <;> decide
            generalize ord U (V * h * 4294967296 ^ j) = r at ho
            obtain ⟨e1, e2, e3⟩ := guess_eq HP0.out hhq.out (by rw [← HPe.out]; exact hle)
            rw [← HPe.out] at e2 e3
            have He2 := hid e2; have He3 := hid e3
            clear e1 e2 e3
            have hle' := hid hle; clear hle
            go_wp2_with fail
            refine (minusD U _ hle'.out su9 sp (by omega) (by omega)).mono ?_; rintro e w10 ⟨uo10, un10, ucap10, rfl, su10, hz10, hb10, fr10⟩
            have hb10 : Below wo.heap.size wo w10 := hbi8.trans (hb10.mono hbi8.size)
            have hown10 := ownsRow_below hown hb10 (Nat.le_refl _)
            obtain ⟨t, _, hcell, hfr⟩ := row_at hown10 (show j < L by omega)
            have hun10 : un10 ≤ 17179869186 := by
              have h1 := su10.lenD (k := (dig U).length) (Nat.lt_of_le_of_lt (Nat.sub_le _ _) hUl.out)
              rw [Hulen.out] at h1; omega
            have fin : (w10.setCell ⟨G, j, none⟩ (.int .u32 (h : Int))).ownsRow G 64 1 (.slice (some ⟨G, 0, none⟩) L L) L (u32s (List.replicate j 0 ++ h :: hi)) := by
              have := row_store hown10 (k := j) h
              rwa [List.replicate_succ', List.append_assoc, List.singleton_append, set_mid (by simp), List.append_assoc, List.singleton_append] at this
            have finb : Below G w3 (w10.setCell ⟨G, j, none⟩ (.int .u32 (h : Int))) :=
              (hbel.trans (hb10.mono (Nat.le_of_lt hGo))).setCell (Nat.le_refl _) _
            have hoff10 : Off G uo10 un10 := Off.fresh fr10 (Nat.lt_of_lt_of_le hGo hbi8.size)
            have Fin := hid (And.intro fin finb); clear fin finb
            have hAU2 : Hid (A = (U - V * h * 4294967296 ^ j) + V * 4294967296 ^ j * val (h :: hi)) := hid (by
              rw [val, Nat.mul_add, ← Nat.add_assoc, ← He3.out, hAU.out, Nat.pow_succ, Nat.mul_assoc, Nat.mul_assoc, Nat.mul_assoc])
            go_wp2_with fail
            go_roundw
            case rel => exact ⟨j, _, h :: hi, uo10, un10, ucap10, by omega, rfl, rfl, su10.setCell hoff10 j _, hoff10, hun10, He2, hAU2, lim_cons.2 ⟨hhl, hlo⟩, hid (by have := hlen.out; simp only [List.length_cons]; omega), Fin.out.1, Fin.out.2⟩
            case measure => simp [intOf]
          · have ho : ord U (V * h * 4294967296 ^ j) < 0 := by
              unfold ord; rw [if_pos (by omega)]; decide
            generalize ord U (V * h * 4294967296 ^ j) = r at ho
            obtain ⟨e1, e2⟩ := guess_gt HP0.out (g := h) (by rw [← HPe.out]; exact hle)
            have He2 := hid e2; clear e2
            have hPle : Hid (V * 4294967296 ^ j ≤ V * h * 4294967296 ^ j ∧ V * h * 4294967296 ^ j - V * 4294967296 ^ j = V * (h - 1) * 4294967296 ^ j) := hid (by
              rw [HPe.out, HPe.out]
              refine ⟨Nat.le_mul_of_pos_left _ e1, ?_⟩
              rw [Nat.sub_mul, Nat.one_mul])
            clear hle
            go_wp2_with fail
            refine (leftD V _ (32 * j) (by omega) (by omega) sv9 (by omega)).mono ?_; rintro e w10 ⟨lo, ln, lcap, rfl, sl, hzl, hb10, _⟩
            rw [H32.out] at sl
            have hln := sl.lenD (k := m + 2 + j) (by
              have := HPlt.out 1 (by decide)
              rwa [Nat.mul_one] at this)
            go_wp2_with fail
            refine (minusD _ _ hPle.out.1 (sp.next hb10) sl (by omega) (by omega)).mono ?_; rintro e w11 ⟨po11, pn11, pcap11, rfl, sp11, hz11, hb11, _⟩
            rw [hPle.out.2] at sp11
            have hb11 : Below w8.heap.size w8 w11 := hbi.trans ((hb10.trans (hb11.mono hb10.size)).mono hbi.size)
            go_wp2_with fail
            go_roundw
            case rel => exact ⟨h - 1, po11, pn11, pcap11, by go_num, rfl, sp11, He2, by omega, hb11⟩
            case measure => simp [intOf]; omega

end Go.Proofs.Yteancfcmiiddiaa
