/-
  The contract of the reference's Fields, at spaces. No condition but sizes.
-/
import Derived.Test.YtcgfglgcjpjbaaaDoorParC
import Derived.Test.YtcgfglgcjpjbaaaDoorWrdI
namespace Go.Proofs.YtcgfglgcjpjbaaaDoor
open Go.RowKit
set_option linter.unusedSimpArgs false
set_option linter.unusedVariables false

/-- A list of texts. -/
def StrsOut (w : World) (l : List ByteArray) (e : Ending) (w' : World) : Prop :=
  ∃ v, e = .returned v ∧ w'.ownsRow w.heap.size 9 1 v l.length (l.map .string) ∧ Below w.heap.size w w'

theorem part_data (s : ByteArray) (g k : Nat) : (s.extract g k).data.toList = (s.data.toList.take k).drop g := by
  rw [Lib.extract_data, List.drop_take]

set_option maxHeartbeats 2000000 in
theorem rFields_any (s : ByteArray) (hs : s.size ≤ 100000) (w : World) :
    Calls Tryd.prog 24 #[.string s, .string ⟨#[32]⟩] w (StrsOut w (fieldsW s)) := by
  have hsz := hid (Lib.size_eq s)
  have h32 : (⟨#[32]⟩ : ByteArray).size = 1 := rfl
  go_enter Tryd.func24, Tryd.ntmps24
  go_wp2_with fail
  go_loopw [5, 6, 7] (fun ov fv iv wr => ∃ (k : Nat) (P : List ByteArray) (f : Int), k ≤ s.size + 1 ∧ fv = .int .i64 f ∧ iv = .int .i64 k ∧ wr.ownsRow w.heap.size 9 1 ov P.length (P.map .string) ∧ P.length ≤ k ∧ Hid (FInv s.data.toList k P f) ∧ Below w.heap.size w wr) (fun _ _ i _ => s.size + 1 - (intOf i).toNat)
  case atStart => exact ⟨0, [], -1, by omega, rfl, rfl, World.ownsRow_nil _ _ _ _, by simp, hid (finv0 _), Below.refl _ _⟩
  case round =>
    obtain ⟨k, P, f, hk, rfl, rfl, hown, hPk, hinv, hbel⟩ := hrel
    obtain ⟨oo, oc, rfl, _, hoz⟩ := ownsZ hown
    by_cases hlt : k < s.size
    · have hx : s.data.toList[k]? = some s[k] := by
        have : k < s.data.toList.length := by rw [← hsz.out]; exact hlt
        rw [List.getElem?_eq_getElem this]; rfl
      have hstep := hid (finv_in hinv.out hx)
      have hkn : ((k : Int) == (s.size : Int)) = false := by rw [beq_eq_false_iff_ne]; omega
      clear hx hinv
      rcases hstep.out with ⟨rfl, h1, h2⟩ | ⟨g, rfl, hg, h1, h2⟩
      · by_cases hb : s[k] = 32
        · have HN := h1 hb
          have hb0 : ((s[k].toNat : Int) == 32) = true := by rw [hb]; rfl
          have HB0 : (s[k].toNat : Int) = 32 := beq_iff_eq.1 hb0
          have HB0 := hid HB0
          clear hstep
          clear h1 h2 hb
          go_wp2_with fail
          go_loopw [8, 9] (fun bv kv wr2 => (kv = .int .i64 0 ∧ bv = .bool false ∧ wr2 = wr) ∨ (kv = .int .i64 1 ∧ bv = .bool true ∧ ∃ q, wr2 = wr.drewN q)) (fun _ j _ => 1 - (intOf j).toNat)
          case atStart => exact .inl ⟨rfl, rfl, rfl⟩
          case round =>
            rcases hrel with ⟨rfl, rfl, rfl⟩ | ⟨rfl, rfl, q, rfl⟩
            · have q0 : k < s.size := hlt
              go_wp2_with fail
              go_quiet (fail)
              go_wp2_with fail
              go_roundw
              case rel => exact .inr ⟨rfl, by simp; (first | exact HB0.out | rfl), _, rfl⟩
              case measure => simp [intOf]
            · have hown := ownsRow_below hown (below_drewNs q) (Nat.le_refl _)
              have hbel : Below w.heap.size w (wr.drewN q) := hbel.trans (below_drewNs q)
              generalize wr.drewN q = wr at *
              go_wp2_with fail
              go_roundw
              case rel => exact ⟨k + 1, P, -1, by omega, rfl, by go_num, hown, by omega, hid HN, hbel⟩
              case measure => simp [intOf]; omega
        · have HN := h2 hb
          have hb0 : ((s[k].toNat : Int) == 32) = false := by
            have : s[k].toNat ≠ 32 := fun e => hb (UInt8.toNat_inj.1 e)
            rw [beq_eq_false_iff_ne]; omega
          have HB0 : ¬ (s[k].toNat : Int) = 32 := beq_eq_false_iff_ne.1 hb0
          have HB0 := hid HB0
          clear hstep
          clear h1 h2 hb
          go_wp2_with fail
          go_loopw [8, 9] (fun bv kv wr2 => (kv = .int .i64 0 ∧ bv = .bool false ∧ wr2 = wr) ∨ (kv = .int .i64 1 ∧ bv = .bool false ∧ ∃ q, wr2 = wr.drewN q)) (fun _ j _ => 1 - (intOf j).toNat)
          case atStart => exact .inl ⟨rfl, rfl, rfl⟩
          case round =>
            rcases hrel with ⟨rfl, rfl, rfl⟩ | ⟨rfl, rfl, q, rfl⟩
            · have q0 : k < s.size := hlt
              go_wp2_with fail
              go_quiet (fail)
              go_wp2_with fail
              go_roundw
              case rel => exact .inr ⟨rfl, by simp; (first | exact HB0.out | rfl), _, rfl⟩
              case measure => simp [intOf]
            · have hown := ownsRow_below hown (below_drewNs q) (Nat.le_refl _)
              have hbel : Below w.heap.size w (wr.drewN q) := hbel.trans (below_drewNs q)
              generalize wr.drewN q = wr at *
              go_wp2_with fail
              go_roundw
              case rel => exact ⟨k + 1, P, (k : Int), by omega, rfl, by go_num, hown, by omega, hid HN, hbel⟩
              case measure => simp [intOf]; omega
      · by_cases hb : s[k] = 32
        · have HN := h1 hb
          have hb0 : ((s[k].toNat : Int) == 32) = true := by rw [hb]; rfl
          have HB0 : (s[k].toNat : Int) = 32 := beq_iff_eq.1 hb0
          have HB0 := hid HB0
          clear hstep
          have hg0 : decide ((g : Int) < 0) = false := decide_eq_false (by omega)
          have hg1 : decide (0 ≤ (g : Int)) = true := decide_eq_true (by omega)
          have hgk : g ≤ k := by omega
          clear h1 h2 hb
          go_wp2_with fail
          go_loopw [8, 9] (fun bv kv wr2 => (kv = .int .i64 0 ∧ bv = .bool false ∧ wr2 = wr) ∨ (kv = .int .i64 1 ∧ bv = .bool true ∧ ∃ q, wr2 = wr.drewN q)) (fun _ j _ => 1 - (intOf j).toNat)
          case atStart => exact .inl ⟨rfl, rfl, rfl⟩
          case round =>
            rcases hrel with ⟨rfl, rfl, rfl⟩ | ⟨rfl, rfl, q, rfl⟩
            · have q0 : k < s.size := hlt
              go_wp2_with fail
              go_quiet (fail)
              go_wp2_with fail
              go_roundw
              case rel => exact .inr ⟨rfl, by simp; (first | exact HB0.out | rfl), _, rfl⟩
              case measure => simp [intOf]
            · have hown := ownsRow_below hown (below_drewNs q) (Nat.le_refl _)
              have hbel : Below w.heap.size w (wr.drewN q) := hbel.trans (below_drewNs q)
              generalize wr.drewN q = wr at *
              have hlit : Sl (wr.alloc (.cells #[.string (s.extract g k)] 9)) (some ⟨wr.heap.size, 0, none⟩) 1 1 ([s.extract g k].map Value.string) := Sl.lit wr [.string (s.extract g k)] 9 (by simp [maxLen])
              go_wp2_with (at_builtin; go_loud (refine wp_app rfl (.tmp 49) (.tmp 54) 22 rfl 9 _ 16 Tryd.underlying22 Tryd.infoStr rfl w.heap.size _ P.length _ rfl (hown.alloc _) _ 1 1 _ rfl hlit (fun h => by cases h) (one_strs _) (by omega) (by omega) (by have := hbel.size; simp only [World.size_alloc]; omega) ?_))
              intro v' w2 hown2 hg2 hb2
              have hbel2 : Below w.heap.size w w2 := (hbel.alloc hbel.size _).trans hb2
              have hown3 : w2.ownsRow w.heap.size 9 1 v' (P ++ [s.extract g k]).length ((P ++ [s.extract g k]).map .string) := by simpa using hown2
              clear hown2
              go_wp2_with fail
              go_roundw
              case rel => exact ⟨k + 1, P ++ [s.extract g k], -1, by omega, rfl, by go_num, hown3, by simp; omega, hid (HN _ (part_data s g k)), hbel2⟩
              case measure => simp [intOf]; omega
        · have HN := h2 hb
          have hb0 : ((s[k].toNat : Int) == 32) = false := by
            have : s[k].toNat ≠ 32 := fun e => hb (UInt8.toNat_inj.1 e)
            rw [beq_eq_false_iff_ne]; omega
          have HB0 : ¬ (s[k].toNat : Int) = 32 := beq_eq_false_iff_ne.1 hb0
          have HB0 := hid HB0
          clear hstep
          have hg0 : decide ((g : Int) < 0) = false := decide_eq_false (by omega)
          have hg1 : decide (0 ≤ (g : Int)) = true := decide_eq_true (by omega)
          have hgk : g ≤ k := by omega
          clear h1 h2 hb
          go_wp2_with fail
          go_loopw [8, 9] (fun bv kv wr2 => (kv = .int .i64 0 ∧ bv = .bool false ∧ wr2 = wr) ∨ (kv = .int .i64 1 ∧ bv = .bool false ∧ ∃ q, wr2 = wr.drewN q)) (fun _ j _ => 1 - (intOf j).toNat)
          case atStart => exact .inl ⟨rfl, rfl, rfl⟩
          case round =>
            rcases hrel with ⟨rfl, rfl, rfl⟩ | ⟨rfl, rfl, q, rfl⟩
            · have q0 : k < s.size := hlt
              go_wp2_with fail
              go_quiet (fail)
              go_wp2_with fail
              go_roundw
              case rel => exact .inr ⟨rfl, by simp; (first | exact HB0.out | rfl), _, rfl⟩
              case measure => simp [intOf]
            · have hown := ownsRow_below hown (below_drewNs q) (Nat.le_refl _)
              have hbel : Below w.heap.size w (wr.drewN q) := hbel.trans (below_drewNs q)
              generalize wr.drewN q = wr at *
              go_wp2_with fail
              go_roundw
              case rel => exact ⟨k + 1, P, (g : Int), by omega, rfl, by go_num, hown, by omega, hid HN, hbel⟩
              case measure => simp [intOf]; omega
    · by_cases hle : k ≤ s.size
      · have hks : k = s.size := by omega
        subst hks
        have hkn : ((s.size : Int) == (s.size : Int)) = true := by simp
        have hlast := finv_last (by rw [← hsz.out]; exact hinv.out)
        rw [← hsz.out] at hlast
        have hlast := hid hlast
        clear hinv
        rcases hlast.out with ⟨rfl, HN⟩ | ⟨g, rfl, hg, HN⟩
        · clear hlast
          go_wp2_with fail
          go_loopw [8, 9] (fun bv kv wr2 => kv = .int .i64 0 ∧ bv = .bool true ∧ wr2 = wr) (fun _ _ _ => 0)
          case atStart => exact ⟨rfl, rfl, rfl⟩
          case round =>
            obtain ⟨rfl, rfl, rfl⟩ := hrel
            go_wp2_with fail
            go_roundw
            case rel => exact ⟨s.size + 1, P, -1, by omega, rfl, by go_num, hown, by omega, hid HN, hbel⟩
            case measure => simp [intOf]
        · have hg0 : decide ((g : Int) < 0) = false := decide_eq_false (by omega)
          have hg1 : decide (0 ≤ (g : Int)) = true := decide_eq_true (by omega)
          have hgk : g ≤ s.size := by omega
          clear hlast
          go_wp2_with fail
          go_loopw [8, 9] (fun bv kv wr2 => kv = .int .i64 0 ∧ bv = .bool true ∧ wr2 = wr) (fun _ _ _ => 0)
          case atStart => exact ⟨rfl, rfl, rfl⟩
          case round =>
            obtain ⟨rfl, rfl, rfl⟩ := hrel
            have hlit : Sl (wr.alloc (.cells #[.string (s.extract g s.size)] 9)) (some ⟨wr.heap.size, 0, none⟩) 1 1 ([s.extract g s.size].map Value.string) := Sl.lit wr [.string (s.extract g s.size)] 9 (by simp [maxLen])
            go_wp2_with (at_builtin; go_loud (refine wp_app rfl (.tmp 49) (.tmp 54) 22 rfl 9 _ 16 Tryd.underlying22 Tryd.infoStr rfl w.heap.size _ P.length _ rfl (hown.alloc _) _ 1 1 _ rfl hlit (fun h => by cases h) (one_strs _) (by omega) (by omega) (by have := hbel.size; simp only [World.size_alloc]; omega) ?_))
            intro v' w2 hown2 hg2 hb2
            have hbel2 : Below w.heap.size w w2 := (hbel.alloc hbel.size _).trans hb2
            have hown3 : w2.ownsRow w.heap.size 9 1 v' (P ++ [s.extract g s.size]).length ((P ++ [s.extract g s.size]).map .string) := by simpa using hown2
            clear hown2
            go_wp2_with fail
            go_roundw
            case rel => exact ⟨s.size + 1, P ++ [s.extract g s.size], -1, by omega, rfl, by go_num, hown3, by simp; omega, hid (HN _ (part_data s g s.size)), hbel2⟩
            case measure => simp [intOf]
      · have hk1 : k = s.size + 1 := by omega
        subst hk1
        have hP := finv_end hinv.out (by rw [← hsz.out]; omega)
        rw [← fieldsW_eq] at hP
        subst hP
        clear hinv
        go_wp2_with fail
        go_ret
        exact ⟨_, rfl, hown, hbel⟩

end Go.Proofs.YtcgfglgcjpjbaaaDoor
