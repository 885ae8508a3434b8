/-
  The contracts of Compare of both packages of words, of the library's comparisons at int, and of Same. No condition.
-/
import Derived.Test.YtcoidofchofljaaWrdA
import Derived.Deep.RegionHeld3
namespace Go.Proofs.Ytcoidofchofljaa
open Go.RowKit
set_option linter.unusedSimpArgs false
set_option linter.unusedVariables false

theorem quiet_addL {P : Program} {f : FuncId} {args : Array Value} {w : World} {a n : Nat} {v : Value}
    (h : Calls P f args (w.drewN (a + n)) fun e w' => e = .returned v ∧ w.drewN (a + n) = w') :
    Calls P f args (w.drewN (a + n)) fun e w'' => e = .returned v ∧ ∃ m, w'' = w.drewN (a + m) :=
  h.mono fun _ _ ⟨he, hm⟩ => ⟨he, n, hm.symm⟩

/-- -1, 0 or 1. -/
def icmp (x y : Int) : Int := if x < y then -1 else if y < x then 1 else 0

def lexc : List Int → List Int → Int
  | x :: v, y :: w => if x < y then -1 else if y < x then 1 else lexc v w
  | [], _ :: _ => -1
  | _ :: _, [] => 1
  | [], [] => 0

/-- A shorter list comes first. -/
def cmpW (v w : List Int) : Int := if v.length < w.length then -1 else if w.length < v.length then 1 else lexc v w

theorem lexc_drop {v w : List Int} {k : Nat} {x y : Int} (hx : v[k]? = some x) (hy : w[k]? = some y) : lexc (v.drop k) (w.drop k) = if x < y then -1 else if y < x then 1 else lexc (v.drop (k + 1)) (w.drop (k + 1)) := by
  rw [drop_cons hx, drop_cons hy]; rfl

theorem lexc_self (v : List Int) : lexc v v = 0 := by
  induction v with
  | nil => rfl
  | cons x v ih => simp [lexc, ih]

theorem lexc_zero {v w : List Int} (h : lexc v w = 0) : v = w := by
  induction v generalizing w with
  | nil => cases w with
    | nil => rfl
    | cons y w => simp [lexc] at h
  | cons x v ih => cases w with
    | nil => simp [lexc] at h
    | cons y w =>
      unfold lexc at h
      split at h
      · cases h
      · split at h
        · cases h
        · rw [ih h]; congr 1; omega

theorem cmpW_zero {v w : List Int} : cmpW v w = 0 ↔ v = w := by
  constructor
  · intro h
    unfold cmpW at h
    split at h
    · cases h
    · split at h
      · cases h
      · exact lexc_zero h
  · rintro rfl
    unfold cmpW; rw [if_neg (by omega), if_neg (by omega), lexc_self]

/-- The first number that is not 0. -/
def orW : List Int → Int
  | [] => 0
  | x :: l => if x = 0 then orW l else x

set_option maxHeartbeats 1000000 in
theorem rwCompare_any (v u : List Int) (ao bo : Option Addr) (n m cap cap' : Nat) (w : World) (hV : Sl w ao n cap (i64s v)) (hU : Sl w bo m cap' (i64s u)) :
    Calls Try.prog 47 #[.slice ao n cap, .slice bo m cap'] w fun e w' => e = .returned (.int .i64 (cmpW v u)) ∧ ∃ q, w' = w.drewN q := by
  have hn := hV.bound
  have hm := hU.bound
  have hlv := hid hV.lenI
  have hlu := hid hU.lenI
  by_cases hnm : n = m
  · subst hnm
    have hr0 : Hid (cmpW v u = lexc v u) := hid (by unfold cmpW; rw [hlv.out, hlu.out, if_neg (by omega), if_neg (by omega)])
    go_enter Try.func47, Try.ntmps47
    go_wp2_with fail
    go_loopw [5] (fun i wr => ∃ k q : Nat, k ≤ n ∧ i = .int .i64 k ∧ Hid (cmpW v u = lexc (v.drop k) (u.drop k)) ∧ wr = w.drewN q) (fun i _ => n - (intOf i).toNat)
    case atStart => exact ⟨0, 0, by omega, rfl, hid (by rw [hr0.out]; rfl), rfl⟩
    case round =>
      obtain ⟨k, q, hk, rfl, hs, rfl⟩ := hrel
      by_cases hlt : k < n
      · obtain ⟨x, hx', bx, ox, rfl, hcx⟩ := hV.i64 hlt
        obtain ⟨y, hy', byy, oy, rfl, hcy⟩ := hU.i64 hlt
        have hd := lexc_drop hx' hy'
        clear hx' hy'
        by_cases h1 : x < y
        · have hr : Hid (cmpW v u = -1) := hid (by rw [hs.out, hd, if_pos h1])
          have c1 : decide (x < y) = true := decide_eq_true h1
          clear hd
          go_wp2_with fail
          go_quiet (fail)
          go_wp2_with fail
          go_ret
          exact ⟨retI hr.out.symm, _, by rw [World.drewN_drewN]⟩
        · have c1 : decide (x < y) = false := decide_eq_false h1
          by_cases h2 : y < x
          · have c2 : decide (y < x) = true := decide_eq_true h2
            have hr : Hid (cmpW v u = 1) := hid (by rw [hs.out, hd, if_neg h1, if_pos h2])
            clear hd
            go_wp2_with fail
            go_quiet (fail)
            go_wp2_with fail
            go_quiet (fail)
            go_wp2_with fail
            go_ret
            exact ⟨retI hr.out.symm, _, by rw [World.drewN_drewN, World.drewN_drewN]⟩
          · have c2 : decide (y < x) = false := decide_eq_false h2
            have hr : Hid (cmpW v u = lexc (v.drop (k + 1)) (u.drop (k + 1))) := hid (by rw [hs.out, hd, if_neg h1, if_neg h2])
            clear hd
            go_wp2_with fail
            go_quiet (fail)
            go_wp2_with fail
            go_quiet (fail)
            go_wp2_with fail
            go_roundw
            case rel => exact ⟨k + 1, _, by omega, by go_num, hr, rfl⟩
            case measure => simp [intOf]; omega
      · obtain rfl : k = n := by omega
        have hr : Hid (cmpW v u = 0) := hid (by rw [hs.out, List.drop_of_length_le (by rw [hlv.out]; omega), List.drop_of_length_le (by rw [hlu.out]; omega)]; rfl)
        go_wp2_with fail
        go_ret
        exact ⟨retI hr.out.symm, _, rfl⟩
  · have hne : ((n : Int) == m) = false := by rw [beq_eq_false_iff_ne]; omega
    have hne2 : ((n : Int) != m) = true := by rw [bne_iff_ne]; omega
    by_cases h1 : n < m
    · have hr : Hid (cmpW v u = -1) := hid (by unfold cmpW; rw [hlv.out, hlu.out, if_pos h1])
      go_enter Try.func47, Try.ntmps47
      go_wp2_with fail
      go_ret
      exact ⟨retI hr.out.symm, 0, rfl⟩
    · have hr : Hid (cmpW v u = 1) := hid (by unfold cmpW; rw [hlv.out, hlu.out, if_neg h1, if_pos (by omega)])
      go_enter Try.func47, Try.ntmps47
      go_wp2_with fail
      go_ret
      exact ⟨retI hr.out.symm, 0, rfl⟩

theorem rwSame_any (v u : List Int) (ao bo : Option Addr) (n m cap cap' : Nat) (w : World) (hV : Sl w ao n cap (i64s v)) (hU : Sl w bo m cap' (i64s u)) :
    Calls Try.prog 25 #[.slice ao n cap, .slice bo m cap'] w fun e w' => e = .returned (.bool (decide (v = u))) ∧ ∃ q, w' = w.drewN q := by
  have hr : Hid (decide (v = u) = (cmpW v u == 0)) := hid (by rw [Bool.eq_iff_iff]; simp [cmpW_zero])
  go_enter Try.func25, Try.ntmps25
  go_wp2_with fail
  refine (rwCompare_any v u _ _ _ _ _ _ _ hV hU).mono ?_; rintro e w1 ⟨rfl, q, rfl⟩
  go_wp2_with fail
  go_ret
  exact ⟨retB hr.out.symm, q, rfl⟩

end Go.Proofs.Ytcoidofchofljaa
