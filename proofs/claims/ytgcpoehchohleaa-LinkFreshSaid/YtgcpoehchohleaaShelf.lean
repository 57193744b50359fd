/- Contracts of the library at this seat, in plain words: printed by the kit's lay-plain. -/
import Derived.Shelf.Strings.Builder1
import Derived.Shelf.Strings.Builder2
import Derived.Shelf.Strings.OnBuilder
import Derived.Test.YtgcpoehchohleaaProg
namespace Go.Proofs
open Go.Shelf Go.RowKit
def Try.lays156_ren : Go.Shelf.Ren := ⟨fun | 156 => 49 | 165 => 64 | 166 => 65 | 169 => 66 | 240 => 71 | 241 => 72 | 276 => 73 | 277 => 74 | n => n, fun | 31 => 59 | 9 => 9 | 3 => 3 | 4 => 4 | 0 => 0 | 20 => 20 | 72 => 108 | 76 => 112 | 70 => 106 | 37 => 52 | 75 => 111 | 127 => 118 | 164 => 121 | 5 => 5 | 80 => 114 | n => n, fun | n => n⟩
theorem Try.lays156 : Go.Proofs.Lays.n156 Try.prog Try.lays156_ren := {
  mixed := by kernel_rfl
  f156 := Try.func49.trans (congrArg some (by kernel_rfl))
  f165 := Try.func64.trans (congrArg some (by kernel_rfl))
  f166 := Try.func65.trans (congrArg some (by kernel_rfl))
  f169 := Try.func66.trans (congrArg some (by kernel_rfl))
  f240 := Try.func71.trans (congrArg some (by kernel_rfl))
  f241 := Try.func72.trans (congrArg some (by kernel_rfl))
  f276 := Try.func73.trans (congrArg some (by kernel_rfl))
  f277 := Try.func74.trans (congrArg some (by kernel_rfl))
  t0 := Try.underlying0
  a0 := Try.isAgg0
  z0 := Try.sizeOf0
  v0 := Try.zeroValue0
  t3 := Try.underlying3
  a3 := Try.isAgg3
  z3 := Try.sizeOf3
  v3 := Try.zeroValue3
  t4 := Try.underlying4
  a4 := Try.isAgg4
  z4 := Try.sizeOf4
  v4 := Try.zeroValue4
  t9 := Try.underlying9
  a9 := Try.isAgg9
  z9 := Try.sizeOf9
  v9 := Try.zeroValue9
  t20 := Try.underlying20
  a20 := Try.isAgg20
  z20 := Try.sizeOf20
  v20 := Try.zeroValue20
  t31 := Try.underlying59
  a31 := Try.isAgg59
  z31 := Try.sizeOf59
  v31 := Try.zeroValue59
  t37 := Try.underlying52
  a37 := Try.isAgg52
  z37 := Try.sizeOf52
  v37 := Try.zeroValue52
  t70 := Try.underlying106
  a70 := Try.isAgg106
  z70 := Try.sizeOf106
  v70 := Try.zeroValue106
  t72 := Try.underlying108
  a72 := Try.isAgg108
  z72 := Try.sizeOf108
  v72 := Try.zeroValue108
  t75 := Try.underlying111
  a75 := Try.isAgg111
  z75 := Try.sizeOf111
  v75 := Try.zeroValue111
  t76 := Try.underlying112
  a76 := Try.isAgg112
  z76 := Try.sizeOf112
  v76 := Try.zeroValue112
  t127 := Try.underlying118
  a127 := Try.isAgg118
  z127 := Try.sizeOf118
  v127 := Try.zeroValue118
  t164 := Try.underlying121
  a164 := Try.isAgg121
  z164 := Try.sizeOf121
  v164 := Try.zeroValue121 }
theorem Try.Builder_Extra_156 : Builder.Extra Try.prog Try.lays156_ren := {
  sizeBuilder := by kernel_rfl
  liesBuilder := by kernel_rfl
  t5 := Try.underlying5
  a5 := Try.isAgg5
  z5 := Try.sizeOf5
  v5 := Try.zeroValue5
  infoByte := by kernel_rfl
  cellsByte := by kernel_rfl
  sizeByte := by kernel_rfl
  neB5 := by decide }
theorem Try.strings_Join_none (a : Option Addr) (c : Nat) (sep : ByteArray) (w : World) :
    Calls Try.prog 49 #[.slice a 0 c, .string sep] w fun e w' => e = .returned (.string ⟨#[]⟩) ∧ w' = w := Any.strings_Join_none Try.lays156 Try.Builder_Extra_156 a c sep w
theorem Try.strings_Join (bk o c : Nat) (xs : List ByteArray) (sep : ByteArray) (w : World) (hcells : ∀ (j : Nat) x, xs[j]? = some x → w.cell? ⟨bk, o + j, none⟩ = some (.string x)) (hbk : bk < w.heap.size) (hN : xs.length ≤ 140737488355328) (hcap : xs.length ≤ c) (hlen : (Lib.join (xs.map (·.data.toList)) sep.data.toList).length ≤ 140737488355328) :
    Calls Try.prog 49 #[.slice (some ⟨bk, o, none⟩) xs.length c, .string sep] w fun e w' => e = .returned (.string ⟨(Lib.join (xs.map (·.data.toList)) sep.data.toList).toArray⟩) ∧ Below w.heap.size w w' := Any.strings_Join Try.lays156 Try.Builder_Extra_156 bk o c xs sep w hcells hbk hN hcap hlen
end Go.Proofs
