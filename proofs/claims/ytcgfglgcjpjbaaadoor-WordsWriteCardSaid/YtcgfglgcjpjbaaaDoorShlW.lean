/-
  strings.Join and strings.Split out of the shelf, at this dump. No condition but those of each contract.
-/
import Derived.Shelf.Strings.OnBuilder
import Derived.Shelf.Strings.Split
import Derived.Shelf.LaysM
import Derived.Test.YtcgfglgcjpjbaaaDoorProg
namespace Go.Proofs.YtcgfglgcjpjbaaaDoor
open Go.Shelf Go.RowKit

def Tryd.lays156_ren : Go.Shelf.Ren := ⟨fun | 156 => 20 | 165 => 38 | 166 => 39 | 169 => 40 | 240 => 56 | 241 => 57 | 276 => 78 | 277 => 79 | n => n, fun | 31 => 22 | 9 => 9 | 3 => 3 | 4 => 4 | 0 => 0 | 20 => 20 | 72 => 59 | 76 => 63 | 70 => 56 | 37 => 57 | 75 => 62 | 127 => 83 | 164 => 100 | 5 => 5 | 80 => 65 | n => n, fun | n => n⟩

theorem Tryd.lays156 : Go.Proofs.Lays.n156 Tryd.prog Tryd.lays156_ren := {
  mixed := by kernel_rfl
  f156 := Tryd.func20.trans (congrArg some (by kernel_rfl))
  f165 := Tryd.func38.trans (congrArg some (by kernel_rfl))
  f166 := Tryd.func39.trans (congrArg some (by kernel_rfl))
  f169 := Tryd.func40.trans (congrArg some (by kernel_rfl))
  f240 := Tryd.func56.trans (congrArg some (by kernel_rfl))
  f241 := Tryd.func57.trans (congrArg some (by kernel_rfl))
  f276 := Tryd.func78.trans (congrArg some (by kernel_rfl))
  f277 := Tryd.func79.trans (congrArg some (by kernel_rfl))
  t0 := Tryd.underlying0
  a0 := Tryd.isAgg0
  z0 := Tryd.sizeOf0
  v0 := Tryd.zeroValue0
  t3 := Tryd.underlying3
  a3 := Tryd.isAgg3
  z3 := Tryd.sizeOf3
  v3 := Tryd.zeroValue3
  t4 := Tryd.underlying4
  a4 := Tryd.isAgg4
  z4 := Tryd.sizeOf4
  v4 := Tryd.zeroValue4
  t9 := Tryd.underlying9
  a9 := Tryd.isAgg9
  z9 := Tryd.sizeOf9
  v9 := Tryd.zeroValue9
  t20 := Tryd.underlying20
  a20 := Tryd.isAgg20
  z20 := Tryd.sizeOf20
  v20 := Tryd.zeroValue20
  t31 := Tryd.underlying22
  a31 := Tryd.isAgg22
  z31 := Tryd.sizeOf22
  v31 := Tryd.zeroValue22
  t37 := Tryd.underlying57
  a37 := Tryd.isAgg57
  z37 := Tryd.sizeOf57
  v37 := Tryd.zeroValue57
  t70 := Tryd.underlying56
  a70 := Tryd.isAgg56
  z70 := Tryd.sizeOf56
  v70 := Tryd.zeroValue56
  t72 := Tryd.underlying59
  a72 := Tryd.isAgg59
  z72 := Tryd.sizeOf59
  v72 := Tryd.zeroValue59
  t75 := Tryd.underlying62
  a75 := Tryd.isAgg62
  z75 := Tryd.sizeOf62
  v75 := Tryd.zeroValue62
  t76 := Tryd.underlying63
  a76 := Tryd.isAgg63
  z76 := Tryd.sizeOf63
  v76 := Tryd.zeroValue63
  t127 := Tryd.underlying83
  a127 := Tryd.isAgg83
  z127 := Tryd.sizeOf83
  v127 := Tryd.zeroValue83
  t164 := Tryd.underlying100
  a164 := Tryd.isAgg100
  z164 := Tryd.sizeOf100
  v164 := Tryd.zeroValue100 }

theorem Tryd.Builder_Extra_156 : Builder.Extra Tryd.prog Tryd.lays156_ren := {
  sizeBuilder := by kernel_rfl
  liesBuilder := by kernel_rfl
  t5 := Tryd.underlying5
  a5 := Tryd.isAgg5
  z5 := Tryd.sizeOf5
  v5 := Tryd.zeroValue5
  infoByte := by kernel_rfl
  cellsByte := by kernel_rfl
  sizeByte := by kernel_rfl
  neB5 := by decide }

open Go.RowKit in
theorem Tryd.strings_Join_none (a : Option Addr) (c : Nat) (sep : ByteArray) (w : World) :
    Calls Tryd.prog 20 #[.slice a 0 c, .string sep] w fun e w' => e = .returned (.string ⟨#[]⟩) ∧ w' = w := Any.strings_Join_none Tryd.lays156 Tryd.Builder_Extra_156 a c sep w

open Go.RowKit in
theorem Tryd.strings_Join (bk o c : Nat) (xs : List ByteArray) (sep : ByteArray) (w : World) (hcells : ∀ (j : Nat) x, xs[j]? = some x → w.cell? ⟨bk, o + j, none⟩ = some (.string x)) (hbk : bk < w.heap.size) (hN : xs.length ≤ 140737488355328) (hcap : xs.length ≤ c) (hlen : (Lib.join (xs.map (·.data.toList)) sep.data.toList).length ≤ 140737488355328) :
    Calls Tryd.prog 20 #[.slice (some ⟨bk, o, none⟩) xs.length c, .string sep] w fun e w' => e = .returned (.string ⟨(Lib.join (xs.map (·.data.toList)) sep.data.toList).toArray⟩) ∧ Below w.heap.size w w' := Any.strings_Join Tryd.lays156 Tryd.Builder_Extra_156 bk o c xs sep w hcells hbk hN hcap hlen

def Tryd.lays146_ren : Go.Shelf.Ren := ⟨fun | 146 => 22 | 221 => 42 | 268 => 58 | 138 => 59 | 143 => 60 | 195 => 80 | 197 => 81 | 218 => 82 | 219 => 83 | 260 => 93 | 217 => 77 | 225 => 94 | 224 => 95 | 267 => 96 | 266 => 92 | 314 => 100 | n => n, fun | 9 => 9 | 31 => 22 | 3 => 3 | 4 => 4 | 0 => 0 | 105 => 104 | 21 => 21 | 5 => 5 | 46 => 91 | 119 => 114 | 139 => 117 | 138 => 116 | 146 => 118 | 51 => 76 | n => n, fun | 1 => 0 | 3 => 1 | 4 => 2 | n => n⟩

theorem Tryd.lays146 : Go.Proofs.Lays.n146 Tryd.prog Tryd.lays146_ren := {
  mixed := by kernel_rfl
  f138 := Tryd.func59.trans (congrArg some (by kernel_rfl))
  f143 := Tryd.func60.trans (congrArg some (by kernel_rfl))
  f146 := Tryd.func22.trans (congrArg some (by kernel_rfl))
  f195 := Tryd.func80.trans (congrArg some (by kernel_rfl))
  f197 := Tryd.func81.trans (congrArg some (by kernel_rfl))
  f217 := Tryd.func77.trans (congrArg some (by kernel_rfl))
  f218 := Tryd.func82.trans (congrArg some (by kernel_rfl))
  f219 := Tryd.func83.trans (congrArg some (by kernel_rfl))
  f221 := Tryd.func42.trans (congrArg some (by kernel_rfl))
  f224 := Tryd.func95.trans (congrArg some (by kernel_rfl))
  f225 := Tryd.func94.trans (congrArg some (by kernel_rfl))
  f260 := Tryd.func93.trans (congrArg some (by kernel_rfl))
  f266 := Tryd.func92.trans (congrArg some (by kernel_rfl))
  f267 := Tryd.func96.trans (congrArg some (by kernel_rfl))
  f268 := Tryd.func58.trans (congrArg some (by kernel_rfl))
  f314 := Tryd.func100.trans (congrArg some (by kernel_rfl))
  t0 := Tryd.underlying0
  a0 := Tryd.isAgg0
  z0 := Tryd.sizeOf0
  v0 := Tryd.zeroValue0
  t3 := Tryd.underlying3
  a3 := Tryd.isAgg3
  z3 := Tryd.sizeOf3
  v3 := Tryd.zeroValue3
  t4 := Tryd.underlying4
  a4 := Tryd.isAgg4
  z4 := Tryd.sizeOf4
  v4 := Tryd.zeroValue4
  t5 := Tryd.underlying5
  a5 := Tryd.isAgg5
  z5 := Tryd.sizeOf5
  v5 := Tryd.zeroValue5
  t9 := Tryd.underlying9
  a9 := Tryd.isAgg9
  z9 := Tryd.sizeOf9
  v9 := Tryd.zeroValue9
  t21 := Tryd.underlying21
  a21 := Tryd.isAgg21
  z21 := Tryd.sizeOf21
  v21 := Tryd.zeroValue21
  t31 := Tryd.underlying22
  a31 := Tryd.isAgg22
  z31 := Tryd.sizeOf22
  v31 := Tryd.zeroValue22
  t46 := Tryd.underlying91
  a46 := Tryd.isAgg91
  z46 := Tryd.sizeOf91
  v46 := Tryd.zeroValue91
  t51 := Tryd.underlying76
  a51 := Tryd.isAgg76
  z51 := Tryd.sizeOf76
  v51 := Tryd.zeroValue76
  t105 := Tryd.underlying104
  a105 := Tryd.isAgg104
  z105 := Tryd.sizeOf104
  v105 := Tryd.zeroValue104
  t119 := Tryd.underlying114
  a119 := Tryd.isAgg114
  z119 := Tryd.sizeOf114
  t138 := Tryd.underlying116
  a138 := Tryd.isAgg116
  z138 := Tryd.sizeOf116
  v138 := Tryd.zeroValue116
  t139 := Tryd.underlying117
  a139 := Tryd.isAgg117
  z139 := Tryd.sizeOf117
  v139 := Tryd.zeroValue117
  t146 := Tryd.underlying118
  a146 := Tryd.isAgg118
  z146 := Tryd.sizeOf118
  v146 := Tryd.zeroValue118
  g1 := by kernel_rfl
  g3 := by kernel_rfl
  g4 := by kernel_rfl }

open Go.RowKit Go.Lib in
theorem Tryd.strings_Split (s sep : ByteArray) (m : Int) (w : World) (hs : s.size < 4294967281) (hm : w.cell? ⟨0, 0, none⟩ = some (.int .i64 m)) (h1 : 1 ≤ sep.size) :
    Calls Tryd.prog 22 #[.string s, .string sep] w fun e w' =>
      e = .returned (.slice (some ⟨w.heap.size, 0, none⟩) (Lib.countB s sep + 1) (Lib.countB s sep + 1)) ∧ w' = w.alloc (.cells ((Lib.splitB sep 0 (Lib.countB s sep) s).map Value.string).toArray 9) := Any.strings_Split Tryd.lays146 (by kernel_rfl) s sep m w hs hm h1

def Tryd.laysM146_ren : Go.Shelf.Ren := ⟨fun | 146 => 22 | 221 => 42 | 268 => 58 | 138 => 59 | 143 => 60 | 195 => 80 | 197 => 81 | 218 => 82 | 219 => 83 | 260 => 93 | 217 => 77 | 225 => 94 | 224 => 95 | 267 => 96 | 266 => 92 | 314 => 100 | n => n, fun | 9 => 9 | 31 => 22 | 3 => 3 | 4 => 4 | 0 => 0 | 105 => 104 | 21 => 21 | 5 => 5 | 46 => 91 | 119 => 114 | 139 => 117 | 138 => 116 | 146 => 118 | 51 => 76 | n => n, fun | 1 => 0 | 3 => 1 | 4 => 2 | n => n⟩

theorem Tryd.laysM146 : Go.Proofs.LaysM.n146 Tryd.prog Tryd.laysM146_ren := {
  mixed := by kernel_rfl
  f138 := Tryd.func59.trans (congrArg some (by kernel_rfl))
  f143 := Tryd.func60.trans (congrArg some (by kernel_rfl))
  f146 := Tryd.func22.trans (congrArg some (by kernel_rfl))
  f195 := Tryd.func80.trans (congrArg some (by kernel_rfl))
  f197 := Tryd.func81.trans (congrArg some (by kernel_rfl))
  f217 := Tryd.func77.trans (congrArg some (by kernel_rfl))
  f218 := Tryd.func82.trans (congrArg some (by kernel_rfl))
  f219 := Tryd.func83.trans (congrArg some (by kernel_rfl))
  f221 := Tryd.func42.trans (congrArg some (by kernel_rfl))
  f224 := Tryd.func95.trans (congrArg some (by kernel_rfl))
  f225 := Tryd.func94.trans (congrArg some (by kernel_rfl))
  f260 := Tryd.func93.trans (congrArg some (by kernel_rfl))
  f266 := Tryd.func92.trans (congrArg some (by kernel_rfl))
  f267 := Tryd.func96.trans (congrArg some (by kernel_rfl))
  f268 := Tryd.func58.trans (congrArg some (by kernel_rfl))
  f314 := Tryd.func100.trans (congrArg some (by kernel_rfl))
  t0 := Tryd.underlying0
  a0 := Tryd.isAgg0
  z0 := Tryd.sizeOf0
  v0 := Tryd.zeroValue0
  t3 := Tryd.underlying3
  a3 := Tryd.isAgg3
  z3 := Tryd.sizeOf3
  v3 := Tryd.zeroValue3
  t4 := Tryd.underlying4
  a4 := Tryd.isAgg4
  z4 := Tryd.sizeOf4
  v4 := Tryd.zeroValue4
  t5 := Tryd.underlying5
  a5 := Tryd.isAgg5
  z5 := Tryd.sizeOf5
  v5 := Tryd.zeroValue5
  t9 := Tryd.underlying9
  a9 := Tryd.isAgg9
  z9 := Tryd.sizeOf9
  v9 := Tryd.zeroValue9
  t21 := Tryd.underlying21
  a21 := Tryd.isAgg21
  z21 := Tryd.sizeOf21
  v21 := Tryd.zeroValue21
  t31 := Tryd.underlying22
  a31 := Tryd.isAgg22
  z31 := Tryd.sizeOf22
  v31 := Tryd.zeroValue22
  t46 := Tryd.underlying91
  a46 := Tryd.isAgg91
  z46 := Tryd.sizeOf91
  v46 := Tryd.zeroValue91
  t51 := Tryd.underlying76
  a51 := Tryd.isAgg76
  z51 := Tryd.sizeOf76
  v51 := Tryd.zeroValue76
  t105 := Tryd.underlying104
  a105 := Tryd.isAgg104
  z105 := Tryd.sizeOf104
  v105 := Tryd.zeroValue104
  t119 := Tryd.underlying114
  a119 := Tryd.isAgg114
  z119 := Tryd.sizeOf114
  t138 := Tryd.underlying116
  a138 := Tryd.isAgg116
  z138 := Tryd.sizeOf116
  v138 := Tryd.zeroValue116
  t139 := Tryd.underlying117
  a139 := Tryd.isAgg117
  z139 := Tryd.sizeOf117
  v139 := Tryd.zeroValue117
  t146 := Tryd.underlying118
  a146 := Tryd.isAgg118
  z146 := Tryd.sizeOf118
  v146 := Tryd.zeroValue118
  g1 := by kernel_rfl
  g3 := by kernel_rfl
  g4 := by kernel_rfl
  i0 := by kernel_rfl
  i3 := by kernel_rfl
  i4 := by kernel_rfl
  i5 := by kernel_rfl
  i9 := by kernel_rfl
  i21 := by kernel_rfl
  i31 := by kernel_rfl
  i46 := by kernel_rfl
  i51 := by kernel_rfl
  i105 := by kernel_rfl
  i138 := by kernel_rfl
  i139 := by kernel_rfl
  i146 := by kernel_rfl
  m1 := by kernel_rfl
  s1_3 := fun w h => Go.Proofs.cell_of_shapedOpen_int (zero := #[.int .i64 0]) (t := 3) h (of_decide_eq_true (by kernel_rfl)) (by kernel_rfl) rfl (by kernel_rfl) (by kernel_rfl) Tryd.underlying3
  m3 := by kernel_rfl
  m4 := by kernel_rfl }


end Go.Proofs.YtcgfglgcjpjbaaaDoor
