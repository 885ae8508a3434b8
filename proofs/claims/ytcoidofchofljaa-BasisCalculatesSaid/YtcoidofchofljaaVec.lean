/-
  Slices of rational numbers in memory: read (Vec), and the call's own (VOwn). No condition but sizes.
-/
import Derived.Test.YtcoidofchofljaaRatY
import Derived.Test.YtcoidofchofljaaRefY
import Derived.Test.YtcoidofchofljaaOwn
import Derived.Test.YtcoidofchofljaaVsp
namespace Go.Proofs.Ytcoidofchofljaa
open Go.RowKit
set_option linter.unusedSimpArgs false
set_option linter.unusedVariables false

/-- Three cells from offset o on. -/
def Tri (w : World) (b o : Nat) (s : Bool) (xo : Option Addr) (xn xc : Nat) (yo : Option Addr) (yn yc : Nat) : Prop :=
  w.cell? ⟨b, o, none⟩ = some (.bool s) ∧ w.cell? ⟨b, o + 1, none⟩ = some (.slice xo xn xc) ∧ w.cell? ⟨b, o + 2, none⟩ = some (.slice yo yn yc)

/-- A slice whose elements read as F 0, F 1, .. -/
def Vec (R : World → Value → Rat → Prop) (w : World) (ao : Option Addr) (n cap : Nat) (F : V) : Prop :=
  n ≤ cap ∧ cap ≤ maxLen ∧ (ao = none → cap = 0) ∧ ∀ i, i < n → ∃ b o, ao = some ⟨b, o, none⟩ ∧ ∃ s xo xn xc yo yn yc, Tri w b (o + i * 3) s xo xn xc yo yn yc ∧ R w (.agg #[.bool s, .slice xo xn xc, .slice yo yn yc]) (F i)

theorem Tri.next {w w' : World} {b o : Nat} {s : Bool} {xo yo : Option Addr} {xn xc yn yc : Nat} (h : Tri w b o s xo xn xc yo yn yc) (hb : Below w.heap.size w w') : Tri w' b o s xo xn xc yo yn yc := by
  obtain ⟨h1, h2, h3⟩ := h
  have hlt := World.block_lt_of_cell? w _ h1
  obtain ⟨hc, _⟩ := bcell hb
  exact ⟨(hc _ _ hlt).trans h1, (hc _ _ hlt).trans h2, (hc _ _ hlt).trans h3⟩

theorem Vec.nextV {w w' : World} {ao : Option Addr} {n cap : Nat} {F : V} (h : Vec RatV w ao n cap F) (hb : Below w.heap.size w w') : Vec RatV w' ao n cap F := by
  obtain ⟨h1, h2, h3, h4⟩ := h
  refine ⟨h1, h2, h3, fun i hi => ?_⟩
  obtain ⟨b, o, e, s, xo, xn, xc, yo, yn, yc, ht, hr⟩ := h4 i hi
  exact ⟨b, o, e, s, xo, xn, xc, yo, yn, yc, ht.next hb, hr.next hb⟩
theorem Vec.nextC {w w' : World} {ao : Option Addr} {n cap : Nat} {F : V} (h : Vec RatC w ao n cap F) (hb : Below w.heap.size w w') : Vec RatC w' ao n cap F := by
  obtain ⟨h1, h2, h3, h4⟩ := h
  refine ⟨h1, h2, h3, fun i hi => ?_⟩
  obtain ⟨b, o, e, s, xo, xn, xc, yo, yn, yc, ht, hr⟩ := h4 i hi
  exact ⟨b, o, e, s, xo, xn, xc, yo, yn, yc, ht.next hb, hr.next hb⟩
theorem Vec.toV {w : World} {ao : Option Addr} {n cap k : Nat} {F : V} (h : Vec RatC w ao n cap F) (hf : ∀ i, i < n → Fit k (F i)) (hk : k ≤ 17179869184) : Vec RatV w ao n cap F := by
  obtain ⟨h1, h2, h3, h4⟩ := h
  refine ⟨h1, h2, h3, fun i hi => ?_⟩
  obtain ⟨b, o, e, s, xo, xn, xc, yo, yn, yc, ht, hr⟩ := h4 i hi
  exact ⟨b, o, e, s, xo, xn, xc, yo, yn, yc, ht, hr.toV (hf i hi) hk⟩
theorem Vec.bound {R : World → Value → Rat → Prop} {w : World} {ao : Option Addr} {n cap : Nat} {F : V} (h : Vec R w ao n cap F) : n ≤ 9223372036854775807 := by
  have := h.1; have := h.2.1; unfold maxLen at *; omega
theorem Vec.get {R : World → Value → Rat → Prop} {w : World} {ao : Option Addr} {n cap : Nat} {F : V} (h : Vec R w ao n cap F) {i : Nat} (hi : i < n) :
    ∃ b o, ao = some ⟨b, o, none⟩ ∧ ∃ s xo xn xc yo yn yc, w.cell? ⟨b, o + i * 3, none⟩ = some (.bool s) ∧ w.cell? ⟨b, o + i * 3 + 1, none⟩ = some (.slice xo xn xc) ∧ w.cell? ⟨b, o + i * 3 + 2, none⟩ = some (.slice yo yn yc) ∧
      R w (.agg #[.bool s, .slice xo xn xc, .slice yo yn yc]) (F i) := by
  obtain ⟨b, o, e, s, xo, xn, xc, yo, yn, yc, ⟨t1, t2, t3⟩, hr⟩ := h.2.2.2 i hi
  exact ⟨b, o, e, s, xo, xn, xc, yo, yn, yc, t1, t2, t3, hr⟩
theorem Vec.nil (R : World → Value → Rat → Prop) (w : World) (F : V) : Vec R w none 0 0 F := ⟨Nat.le_refl _, by simp [maxLen], fun _ => rfl, fun i h => by omega⟩
theorem Vec.congr {R : World → Value → Rat → Prop} {w : World} {ao : Option Addr} {n cap : Nat} {F G : V} (h : Vec R w ao n cap F) (he : ∀ i, i < n → F i = G i) : Vec R w ao n cap G := by
  obtain ⟨h1, h2, h3, h4⟩ := h
  refine ⟨h1, h2, h3, fun i hi => ?_⟩
  rw [← he i hi]; exact h4 i hi

/-- The first place that is not 0 as a number. -/
def leadI (n : Nat) (F : V) : Int := match leadOf n F with | some p => p | none => -1
theorem leadI_at {n k : Nat} {F : V} (hk : k < n) (h : F k ≠ 0) (h0 : ∀ i, i < k → F i = 0) : leadI n F = k := by unfold leadI; rw [leadOf_of hk h h0]
theorem leadI_no {n : Nat} {F : V} (h0 : ∀ i, i < n → F i = 0) : leadI n F = -1 := by unfold leadI; rw [leadOf_no h0]

theorem rsg0 {r : Rat} : rsg r = 0 ↔ r = 0 := by
  unfold rsg sg
  constructor
  · intro h
    have : r.num = 0 := by split at h <;> (try split at h) <;> omega
    exact Rat.num_eq_zero.1 this
  · rintro rfl; rfl

set_option maxHeartbeats 2000000 in
theorem first_any (ao : Option Addr) (n cap : Nat) (F : V) (w : World) (h : Vec RatV w ao n cap F) :
    Calls Try.prog 49 #[.slice ao n cap] w fun e w' => e = .returned (.int .i64 (leadI n F)) ∧ Below w.heap.size w w' := by
  have hb := h.bound
  go_enter Try.func49, Try.ntmps49
  go_wp2_with fail
  go_loopw [7] (fun i wr => ∃ k : Nat, k ≤ n ∧ i = .int .i64 k ∧ Hid (∀ j, j < k → F j = 0) ∧ Below w.heap.size w wr) (fun i _ => n - (intOf i).toNat)
  case atStart => exact ⟨0, by omega, rfl, hid (fun j hj => by omega), Below.refl _ _⟩
  case round =>
    obtain ⟨k, hk, rfl, h0, hbel⟩ := hrel
    by_cases hlt : k < n
    · obtain ⟨b, o, rfl, s, xo, xn, xc, yo, yn, yc, t1, t2, t3, hr⟩ := (h.nextV hbel).get hlt
      have hb1 : Below wr.heap.size wr (wr.alloc (.cells #[.bool s, .slice xo xn xc, .slice yo yn yc] 39)) := below_alloc _
      have hr1 := hr.next hb1
      have hbel1 := below_chain hbel hb1
      obtain ⟨c, hc⟩ : ∃ c, rsg (F k) = c := ⟨_, rfl⟩
      have hck : Hid (F k = 0 ↔ c = 0) := hid (by rw [← hc]; exact rsg0.symm)
      have Hc := hid hc
      clear hc hb1 hr hbel
      go_wp2_with fail
      refine (Sign_any (F k) _ _ hr1).mono ?_; rw [Hc.out]; rintro e w2 ⟨rfl, hb2⟩
      have hbel2 := below_chain hbel1 hb2
      by_cases hc0 : c = 0
      · subst hc0
        have h0' : Hid (∀ j, j < k + 1 → F j = 0) := hid (fun j hj => by
          rcases Nat.lt_succ_iff_lt_or_eq.1 hj with h | h
          · exact h0.out j h
          · rw [h]; exact hck.out.2 rfl)
        go_wp2_with fail
        go_roundw
        case rel => exact ⟨k + 1, by omega, by go_num, h0', hbel2⟩
        case measure => simp [intOf]; omega
      · have hc1 : (c != 0) = true := by rw [bne_iff_ne]; exact hc0
        have hres := hid (leadI_at hlt (fun e => hc0 (hck.out.1 e)) h0.out)
        go_wp2_with fail
        go_ret
        exact ⟨retI hres.out.symm, hbel2⟩
    · obtain rfl : k = n := by omega
      have hres := hid (leadI_no h0.out)
      go_wp2_with fail
      go_ret
      exact ⟨retI hres.out.symm, hbel⟩

set_option maxHeartbeats 2000000 in
theorem refLead_any (ao : Option Addr) (n cap : Nat) (F : V) (w : World) (h : Vec RatV w ao n cap F) :
    Calls Try.prog 43 #[.slice ao n cap] w fun e w' => e = .returned (.int .i64 (leadI n F)) ∧ Below w.heap.size w w' := by
  have hb := h.bound
  go_enter Try.func43, Try.ntmps43
  go_wp2_with fail
  go_loopw [3] (fun i wr => ∃ k : Nat, k ≤ n ∧ i = .int .i64 k ∧ Hid (∀ j, j < k → F j = 0) ∧ Below w.heap.size w wr) (fun i _ => n - (intOf i).toNat)
  case atStart => exact ⟨0, by omega, rfl, hid (fun j hj => by omega), Below.refl _ _⟩
  case round =>
    obtain ⟨k, hk, rfl, h0, hbel⟩ := hrel
    by_cases hlt : k < n
    · obtain ⟨b, o, rfl, s, xo, xn, xc, yo, yn, yc, t1, t2, t3, hr⟩ := (h.nextV hbel).get hlt
      obtain ⟨c, hc⟩ : ∃ c, rsg (F k) = c := ⟨_, rfl⟩
      have hck : Hid (F k = 0 ↔ c = 0) := hid (by rw [← hc]; exact rsg0.symm)
      have Hc := hid hc
      clear hc
      go_wp2_with fail
      refine (rSign_any (F k) _ _ hr).mono ?_; rw [Hc.out]; rintro e w2 ⟨rfl, hb2⟩
      have hbel2 := below_chain hbel hb2
      by_cases hc0 : c = 0
      · subst hc0
        have h0' : Hid (∀ j, j < k + 1 → F j = 0) := hid (fun j hj => by
          rcases Nat.lt_succ_iff_lt_or_eq.1 hj with h | h
          · exact h0.out j h
          · rw [h]; exact hck.out.2 rfl)
        go_wp2_with fail
        go_roundw
        case rel => exact ⟨k + 1, by omega, by go_num, h0', hbel2⟩
        case measure => simp [intOf]; omega
      · have hc1 : (c != 0) = true := by rw [bne_iff_ne]; exact hc0
        have hres := hid (leadI_at hlt (fun e => hc0 (hck.out.1 e)) h0.out)
        go_wp2_with fail
        go_ret
        exact ⟨retI hres.out.symm, hbel2⟩
    · obtain rfl : k = n := by omega
      have hres := hid (leadI_no h0.out)
      go_wp2_with fail
      go_ret
      exact ⟨retI hres.out.symm, hbel⟩

end Go.Proofs.Ytcoidofchofljaa
