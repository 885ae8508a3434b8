/-
  The contracts of the Space's reduce, Find and Add (where nothing is added) over a space in memory. No condition but sizes.
-/
import Derived.Test.YtcoidofchofljaaSpa
import Derived.Test.YtcoidofchofljaaSpc
namespace Go.Proofs.Ytcoidofchofljaa
open Go.RowKit
set_option linter.unusedSimpArgs false
set_option linter.unusedVariables false

theorem Sp.read {w : World} {lo P n : Nat} {T : Nat → Prop} {st : List Row} (h : Sp w lo P T n st) : ∃ ro rc bo bc po pc, C3 P (.slice ro st.length rc) (.slice bo st.length bc) (.slice po st.length pc) w ∧
    Mat RatC w ro st.length rc (fun _ => n) (rv st) ∧ Mat RatC w bo st.length bc (fun i => i + 1) (rcf st) ∧ Sl w po st.length pc ((List.range st.length).map fun i => Value.int .i64 (rpl st i)) := by
  obtain ⟨vr, vb, vp, h1, h2, h3, h4, _⟩ := h
  obtain ⟨ro, rc, rfl, hr⟩ := h2.mat
  obtain ⟨bo, bc, rfl, hb⟩ := h3.mat
  obtain ⟨po, pc, rfl, hp⟩ := ownsSl h4.1
  exact ⟨ro, rc, bo, bc, po, pc, ⟨(h1.cells3 0).1, (h1.cells3 1).1, (h1.cells3 2).1⟩, hr, hb, hp⟩

section
variable (lo P n K : Nat) (T : Nat → Prop) (st : List Row) (F : V) (ao : Option Addr) (cap : Nat) (w : World)

theorem sp_reduce (hsp : Sp w lo P T n st) (h : Vec RatV w ao n cap F) (hn : n ≤ 1000) (hK : 1 ≤ K) (hF : ∀ i, i < n → Fit K (F i)) (hfit : RFit K n st) (hm : st.length ≤ 1000) (hbig : lv K st.length ≤ 1000000) :
    Calls Try.prog 48 #[.pointer (some ⟨P, 0, none⟩), .slice ao n cap] w fun e w' => ∃ g1 g2, e = .returned (.tuple #[.slice (some ⟨g1, 0, none⟩) n n, .slice (some ⟨g2, 0, none⟩) st.length st.length]) ∧ g1 ≠ g2 ∧
      VOwn w' w.heap.size (.slice (some ⟨g1, 0, none⟩) n n) n (red st F).1 ∧ VOwn w' w.heap.size (.slice (some ⟨g2, 0, none⟩) st.length st.length) st.length (red st F).2 ∧ Below w.heap.size w w' := by
  obtain ⟨ro, rc, bo, bc, po, pc, h1, h2, h3, h4⟩ := hsp.read
  have := reduce_any P st.length n K (rv st) (rcf st) (rpl st) F ro rc bo bc po pc ao cap w h1 h2 h3 h4 h hn hm hK hF hfit.v hfit.c hfit.p hfit.z hbig
  rw [redN_all] at this
  exact this

/-- Vectors that are 0 have no first place. -/
theorem leadI_zero {n : Nat} {F : V} (h : ∀ i, i < n → F i = 0) : leadI n F = -1 := leadI_no h
theorem leadI_pos {n p : Nat} {F : V} (h : leadOf n F = some p) : leadI n F = p := by unfold leadI; rw [h]

set_option maxHeartbeats 1000000 in
theorem add_no (hsp : Sp w lo P T n st) (h : Vec RatV w ao n cap F) (hn : n ≤ 1000) (hK : 1 ≤ K) (hF : ∀ i, i < n → Fit K (F i)) (hfit : RFit K n st) (hm : st.length ≤ 1000) (hbig : lv K st.length ≤ 1000000) (ha : addV n st F = none) :
    Calls Try.prog 27 #[.pointer (some ⟨P, 0, none⟩), .slice ao n cap] w fun e w' => e = .returned (.bool false) ∧ Below w.heap.size w w' := by
  have hred := hid (sp_reduce lo P n K T st F ao cap w hsp h hn hK hF hfit hm hbig)
  have hl := hid (leadI_zero (addV_none.1 ha))
  have f1 := hid (hfit.red hK hF).1
  clear hF ha
  go_enter Try.func27, Try.ntmps27
  go_wp2_with fail
  refine hred.out.mono ?_; rintro e w1 ⟨g1, g2, rfl, hne, hA, hT, hb1⟩
  obtain ⟨ro, rc, er, hv⟩ := hA.vec
  injection er with er _ er2
  subst er er2
  have hv2 := hv.toV f1.out (by omega)
  clear hv hA hT
  go_wp2_with fail
  refine (first_any _ _ _ _ _ hv2).mono ?_; rw [hl.out]; rintro e w2 ⟨rfl, hb2⟩
  have hbel := below_chain hb1 hb2
  go_wp2_with fail
  go_ret
  exact ⟨rfl, hbel⟩

set_option maxHeartbeats 1000000 in
theorem find_no (hsp : Sp w lo P T n st) (h : Vec RatV w ao n cap F) (hn : n ≤ 1000) (hK : 1 ≤ K) (hF : ∀ i, i < n → Fit K (F i)) (hfit : RFit K n st) (hm : st.length ≤ 1000) (hbig : lv K st.length ≤ 1000000) {p : Nat} (hp : leadOf n (red st F).1 = some p) :
    Calls Try.prog 30 #[.pointer (some ⟨P, 0, none⟩), .slice ao n cap] w fun e w' => e = .returned (.tuple #[.slice none 0 0, .bool false]) ∧ Below w.heap.size w w' := by
  have hred := hid (sp_reduce lo P n K T st F ao cap w hsp h hn hK hF hfit hm hbig)
  have hl := hid (leadI_pos hp)
  have f1 := hid (hfit.red hK hF).1
  have hpn := (leadOf_some hp).1
  clear hF hp
  go_enter Try.func30, Try.ntmps30
  go_wp2_with fail
  refine hred.out.mono ?_; rintro e w1 ⟨g1, g2, rfl, hne, hA, hT, hb1⟩
  obtain ⟨ro, rc, er, hv⟩ := hA.vec
  injection er with er _ er2
  subst er er2
  have hv2 := hv.toV f1.out (by omega)
  clear hv hA hT
  go_wp2_with fail
  refine (first_any _ _ _ _ _ hv2).mono ?_; rw [hl.out]; rintro e w2 ⟨rfl, hb2⟩
  have hbel := below_chain hb1 hb2
  go_wp2_with fail
  go_ret2
  exact ⟨rfl, hbel⟩

set_option maxHeartbeats 1000000 in
theorem find_yes (hsp : Sp w lo P T n st) (h : Vec RatV w ao n cap F) (hn : n ≤ 1000) (hK : 1 ≤ K) (hF : ∀ i, i < n → Fit K (F i)) (hfit : RFit K n st) (hm : st.length ≤ 1000) (hbig : lv K st.length ≤ 1000000) (hz : leadOf n (red st F).1 = none) :
    Calls Try.prog 30 #[.pointer (some ⟨P, 0, none⟩), .slice ao n cap] w fun e w' => ∃ v, e = .returned (.tuple #[v, .bool true]) ∧ VOwn w' w.heap.size v st.length (red st F).2 ∧ Below w.heap.size w w' := by
  have hred := hid (sp_reduce lo P n K T st F ao cap w hsp h hn hK hF hfit hm hbig)
  have hl := hid (leadI_zero (leadOf_none hz))
  have f1 := hid (hfit.red hK hF).1
  clear hF hz
  go_enter Try.func30, Try.ntmps30
  go_wp2_with fail
  refine hred.out.mono ?_; rintro e w1 ⟨g1, g2, rfl, hne, hA, hT, hb1⟩
  obtain ⟨ro, rc, er, hv⟩ := hA.vec
  injection er with er _ er2
  subst er er2
  have hv2 := hv.toV f1.out (by omega)
  clear hv hA
  go_wp2_with fail
  refine (first_any _ _ _ _ _ hv2).mono ?_; rw [hl.out]; rintro e w2 ⟨rfl, hb2⟩
  have hbel := below_chain hb1 hb2
  have hT2 := hT.next hb2
  clear hT
  go_wp2_with fail
  go_ret2
  exact ⟨_, rfl, hT2, hbel⟩
end

end Go.Proofs.Ytcoidofchofljaa
