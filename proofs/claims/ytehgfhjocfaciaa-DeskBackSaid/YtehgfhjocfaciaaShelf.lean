/- Contracts of the library at this seat, in plain words: printed by the kit's lay-plain. -/
import Derived.Shelf.Strings.Builder1
import Derived.Shelf.Strings.Builder2
import Derived.Shelf.Strings.OnBuilder
import Derived.Test.YtehgfhjocfaciaaProg
namespace Go.Proofs
open Go.Shelf Go.RowKit
def Try.lays156_ren : Go.Shelf.Ren := ⟨fun | 156 => 71 | 165 => 76 | 166 => 77 | 169 => 78 | 240 => 79 | 241 => 80 | 276 => 81 | 277 => 82 | n => n, fun | 31 => 107 | 9 => 9 | 3 => 3 | 4 => 4 | 0 => 0 | 20 => 20 | 72 => 115 | 76 => 119 | 70 => 113 | 37 => 85 | 75 => 118 | 127 => 123 | 164 => 124 | 5 => 5 | 80 => 121 | n => n, fun | n => n⟩
theorem Try.lays156 : Go.Proofs.Lays.n156 Try.prog Try.lays156_ren := {
  mixed := by kernel_rfl
  f156 := Try.func71.trans (congrArg some (by kernel_rfl))
  f165 := Try.func76.trans (congrArg some (by kernel_rfl))
  f166 := Try.func77.trans (congrArg some (by kernel_rfl))
  f169 := Try.func78.trans (congrArg some (by kernel_rfl))
  f240 := Try.func79.trans (congrArg some (by kernel_rfl))
  f241 := Try.func80.trans (congrArg some (by kernel_rfl))
  f276 := Try.func81.trans (congrArg some (by kernel_rfl))
  f277 := Try.func82.trans (congrArg some (by kernel_rfl))
  t0 := Try.underlying0
  a0 := Try.isAgg0
  z0 := Try.sizeOf0
  v0 := Try.zeroValue0
  t3 := Try.underlying3
  a3 := Try.isAgg3
  z3 := Try.sizeOf3
  v3 := Try.zeroValue3
  t4 := Try.underlying4
  a4 := Try.isAgg4
  z4 := Try.sizeOf4
  v4 := Try.zeroValue4
  t9 := Try.underlying9
  a9 := Try.isAgg9
  z9 := Try.sizeOf9
  v9 := Try.zeroValue9
  t20 := Try.underlying20
  a20 := Try.isAgg20
  z20 := Try.sizeOf20
  v20 := Try.zeroValue20
  t31 := Try.underlying107
  a31 := Try.isAgg107
  z31 := Try.sizeOf107
  v31 := Try.zeroValue107
  t37 := Try.underlying85
  a37 := Try.isAgg85
  z37 := Try.sizeOf85
  v37 := Try.zeroValue85
  t70 := Try.underlying113
  a70 := Try.isAgg113
  z70 := Try.sizeOf113
  v70 := Try.zeroValue113
  t72 := Try.underlying115
  a72 := Try.isAgg115
  z72 := Try.sizeOf115
  v72 := Try.zeroValue115
  t75 := Try.underlying118
  a75 := Try.isAgg118
  z75 := Try.sizeOf118
  v75 := Try.zeroValue118
  t76 := Try.underlying119
  a76 := Try.isAgg119
  z76 := Try.sizeOf119
  v76 := Try.zeroValue119
  t127 := Try.underlying123
  a127 := Try.isAgg123
  z127 := Try.sizeOf123
  v127 := Try.zeroValue123
  t164 := Try.underlying124
  a164 := Try.isAgg124
  z164 := Try.sizeOf124
  v164 := Try.zeroValue124 }
theorem Try.Builder_Extra_156 : Builder.Extra Try.prog Try.lays156_ren := {
  sizeBuilder := by kernel_rfl
  liesBuilder := by kernel_rfl
  t5 := Try.underlying5
  a5 := Try.isAgg5
  z5 := Try.sizeOf5
  v5 := Try.zeroValue5
  infoByte := by kernel_rfl
  cellsByte := by kernel_rfl
  sizeByte := by kernel_rfl
  neB5 := by decide }
theorem Try.strings_Join_none (a : Option Addr) (c : Nat) (sep : ByteArray) (w : World) :
    Calls Try.prog 71 #[.slice a 0 c, .string sep] w fun e w' => e = .returned (.string ⟨#[]⟩) ∧ w' = w := Any.strings_Join_none Try.lays156 Try.Builder_Extra_156 a c sep w
theorem Try.strings_Join (bk o c : Nat) (xs : List ByteArray) (sep : ByteArray) (w : World) (hcells : ∀ (j : Nat) x, xs[j]? = some x → w.cell? ⟨bk, o + j, none⟩ = some (.string x)) (hbk : bk < w.heap.size) (hN : xs.length ≤ 140737488355328) (hcap : xs.length ≤ c) (hlen : (Lib.join (xs.map (·.data.toList)) sep.data.toList).length ≤ 140737488355328) :
    Calls Try.prog 71 #[.slice (some ⟨bk, o, none⟩) xs.length c, .string sep] w fun e w' => e = .returned (.string ⟨(Lib.join (xs.map (·.data.toList)) sep.data.toList).toArray⟩) ∧ Below w.heap.size w w' := Any.strings_Join Try.lays156 Try.Builder_Extra_156 bk o c xs sep w hcells hbk hN hcap hlen
end Go.Proofs
