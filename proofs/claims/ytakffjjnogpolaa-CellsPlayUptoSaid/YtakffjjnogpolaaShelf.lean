/- Contracts of the library at this seat, in plain words: printed by the kit's lay-plain. -/
import Derived.Shelf.Strings.Builder1
import Derived.Shelf.Strings.Builder2
import Derived.Shelf.Strings.OnBuilder
import Derived.Shelf.Strings.BuilderF
import Derived.Shelf.Strings.Prefix
import Derived.Shelf.Bits.Mul64
import Derived.Shelf.Strings.Repeat
import Derived.Test.YtakffjjnogpolaaProg
namespace Go.Proofs
open Go.Shelf Go.RowKit
def Try.lays156_ren : Go.Shelf.Ren := ⟨fun | 156 => 30 | 165 => 36 | 166 => 37 | 169 => 38 | 240 => 42 | 241 => 43 | 276 => 47 | 277 => 48 | n => n, fun | 31 => 48 | 9 => 9 | 3 => 3 | 4 => 4 | 0 => 0 | 20 => 20 | 72 => 76 | 76 => 80 | 70 => 74 | 37 => 31 | 75 => 79 | 127 => 86 | 164 => 93 | 5 => 5 | 80 => 82 | n => n, fun | n => n⟩
theorem Try.lays156 : Go.Proofs.Lays.n156 Try.prog Try.lays156_ren := {
  mixed := by kernel_rfl
  f156 := Try.func30.trans (congrArg some (by kernel_rfl))
  f165 := Try.func36.trans (congrArg some (by kernel_rfl))
  f166 := Try.func37.trans (congrArg some (by kernel_rfl))
  f169 := Try.func38.trans (congrArg some (by kernel_rfl))
  f240 := Try.func42.trans (congrArg some (by kernel_rfl))
  f241 := Try.func43.trans (congrArg some (by kernel_rfl))
  f276 := Try.func47.trans (congrArg some (by kernel_rfl))
  f277 := Try.func48.trans (congrArg some (by kernel_rfl))
  t0 := Try.underlying0
  a0 := Try.isAgg0
  z0 := Try.sizeOf0
  v0 := Try.zeroValue0
  t3 := Try.underlying3
  a3 := Try.isAgg3
  z3 := Try.sizeOf3
  v3 := Try.zeroValue3
  t4 := Try.underlying4
  a4 := Try.isAgg4
  z4 := Try.sizeOf4
  v4 := Try.zeroValue4
  t9 := Try.underlying9
  a9 := Try.isAgg9
  z9 := Try.sizeOf9
  v9 := Try.zeroValue9
  t20 := Try.underlying20
  a20 := Try.isAgg20
  z20 := Try.sizeOf20
  v20 := Try.zeroValue20
  t31 := Try.underlying48
  a31 := Try.isAgg48
  z31 := Try.sizeOf48
  v31 := Try.zeroValue48
  t37 := Try.underlying31
  a37 := Try.isAgg31
  z37 := Try.sizeOf31
  v37 := Try.zeroValue31
  t70 := Try.underlying74
  a70 := Try.isAgg74
  z70 := Try.sizeOf74
  v70 := Try.zeroValue74
  t72 := Try.underlying76
  a72 := Try.isAgg76
  z72 := Try.sizeOf76
  v72 := Try.zeroValue76
  t75 := Try.underlying79
  a75 := Try.isAgg79
  z75 := Try.sizeOf79
  v75 := Try.zeroValue79
  t76 := Try.underlying80
  a76 := Try.isAgg80
  z76 := Try.sizeOf80
  v76 := Try.zeroValue80
  t127 := Try.underlying86
  a127 := Try.isAgg86
  z127 := Try.sizeOf86
  v127 := Try.zeroValue86
  t164 := Try.underlying93
  a164 := Try.isAgg93
  z164 := Try.sizeOf93
  v164 := Try.zeroValue93 }
theorem Try.Builder_Extra_156 : Builder.Extra Try.prog Try.lays156_ren := {
  sizeBuilder := by kernel_rfl
  liesBuilder := by kernel_rfl
  t5 := Try.underlying5
  a5 := Try.isAgg5
  z5 := Try.sizeOf5
  v5 := Try.zeroValue5
  infoByte := by kernel_rfl
  cellsByte := by kernel_rfl
  sizeByte := by kernel_rfl
  neB5 := by decide }
theorem Try.strings_Join_none (a : Option Addr) (c : Nat) (sep : ByteArray) (w : World) :
    Calls Try.prog 30 #[.slice a 0 c, .string sep] w fun e w' => e = .returned (.string ⟨#[]⟩) ∧ w' = w := Any.strings_Join_none Try.lays156 Try.Builder_Extra_156 a c sep w
theorem Try.strings_Join (bk o c : Nat) (xs : List ByteArray) (sep : ByteArray) (w : World) (hcells : ∀ (j : Nat) x, xs[j]? = some x → w.cell? ⟨bk, o + j, none⟩ = some (.string x)) (hbk : bk < w.heap.size) (hN : xs.length ≤ 140737488355328) (hcap : xs.length ≤ c) (hlen : (Lib.join (xs.map (·.data.toList)) sep.data.toList).length ≤ 140737488355328) :
    Calls Try.prog 30 #[.slice (some ⟨bk, o, none⟩) xs.length c, .string sep] w fun e w' => e = .returned (.string ⟨(Lib.join (xs.map (·.data.toList)) sep.data.toList).toArray⟩) ∧ Below w.heap.size w w' := Any.strings_Join Try.lays156 Try.Builder_Extra_156 bk o c xs sep w hcells hbk hN hcap hlen
def Try.lays105_ren : Go.Shelf.Ren := ⟨fun | 105 => 35 | 212 => 39 | 99 => 40 | 165 => 36 | 166 => 37 | 170 => 41 | 169 => 38 | 263 => 44 | 264 => 45 | 206 => 46 | 240 => 42 | 241 => 43 | 276 => 47 | 277 => 48 | n => n, fun | 9 => 9 | 3 => 3 | 4 => 4 | 20 => 20 | 0 => 0 | 46 => 23 | 109 => 83 | 5 => 5 | 72 => 76 | 76 => 80 | 51 => 87 | 146 => 88 | 53 => 90 | 148 => 91 | 70 => 74 | 37 => 31 | 75 => 79 | 127 => 86 | 164 => 93 | 80 => 82 | n => n, fun | n => n⟩
theorem Try.lays105 : Go.Proofs.Lays.n105 Try.prog Try.lays105_ren := {
  mixed := by kernel_rfl
  f99 := Try.func40.trans (congrArg some (by kernel_rfl))
  f105 := Try.func35.trans (congrArg some (by kernel_rfl))
  f165 := Try.func36.trans (congrArg some (by kernel_rfl))
  f166 := Try.func37.trans (congrArg some (by kernel_rfl))
  f169 := Try.func38.trans (congrArg some (by kernel_rfl))
  f170 := Try.func41.trans (congrArg some (by kernel_rfl))
  f206 := Try.func46.trans (congrArg some (by kernel_rfl))
  f212 := Try.func39.trans (congrArg some (by kernel_rfl))
  f240 := Try.func42.trans (congrArg some (by kernel_rfl))
  f241 := Try.func43.trans (congrArg some (by kernel_rfl))
  f263 := Try.func44.trans (congrArg some (by kernel_rfl))
  f264 := Try.func45.trans (congrArg some (by kernel_rfl))
  f276 := Try.func47.trans (congrArg some (by kernel_rfl))
  f277 := Try.func48.trans (congrArg some (by kernel_rfl))
  t0 := Try.underlying0
  a0 := Try.isAgg0
  z0 := Try.sizeOf0
  v0 := Try.zeroValue0
  t3 := Try.underlying3
  a3 := Try.isAgg3
  z3 := Try.sizeOf3
  v3 := Try.zeroValue3
  t4 := Try.underlying4
  a4 := Try.isAgg4
  z4 := Try.sizeOf4
  v4 := Try.zeroValue4
  t5 := Try.underlying5
  a5 := Try.isAgg5
  z5 := Try.sizeOf5
  v5 := Try.zeroValue5
  t9 := Try.underlying9
  a9 := Try.isAgg9
  z9 := Try.sizeOf9
  v9 := Try.zeroValue9
  t20 := Try.underlying20
  a20 := Try.isAgg20
  z20 := Try.sizeOf20
  v20 := Try.zeroValue20
  t37 := Try.underlying31
  a37 := Try.isAgg31
  z37 := Try.sizeOf31
  v37 := Try.zeroValue31
  t46 := Try.underlying23
  a46 := Try.isAgg23
  z46 := Try.sizeOf23
  v46 := Try.zeroValue23
  t51 := Try.underlying87
  a51 := Try.isAgg87
  z51 := Try.sizeOf87
  v51 := Try.zeroValue87
  t53 := Try.underlying90
  a53 := Try.isAgg90
  z53 := Try.sizeOf90
  v53 := Try.zeroValue90
  t70 := Try.underlying74
  a70 := Try.isAgg74
  z70 := Try.sizeOf74
  v70 := Try.zeroValue74
  t72 := Try.underlying76
  a72 := Try.isAgg76
  z72 := Try.sizeOf76
  v72 := Try.zeroValue76
  t75 := Try.underlying79
  a75 := Try.isAgg79
  z75 := Try.sizeOf79
  v75 := Try.zeroValue79
  t76 := Try.underlying80
  a76 := Try.isAgg80
  z76 := Try.sizeOf80
  v76 := Try.zeroValue80
  t109 := Try.underlying83
  a109 := Try.isAgg83
  z109 := Try.sizeOf83
  v109 := Try.zeroValue83
  t127 := Try.underlying86
  a127 := Try.isAgg86
  z127 := Try.sizeOf86
  v127 := Try.zeroValue86
  t146 := Try.underlying88
  a146 := Try.isAgg88
  z146 := Try.sizeOf88
  v146 := Try.zeroValue88
  t148 := Try.underlying91
  a148 := Try.isAgg91
  z148 := Try.sizeOf91
  v148 := Try.zeroValue91
  t164 := Try.underlying93
  a164 := Try.isAgg93
  z164 := Try.sizeOf93
  v164 := Try.zeroValue93 }
theorem Try.Builder_Extra_105 : Builder.Extra Try.prog Try.lays105_ren := {
  sizeBuilder := by kernel_rfl
  liesBuilder := by kernel_rfl
  t5 := Try.underlying5
  a5 := Try.isAgg5
  z5 := Try.sizeOf5
  v5 := Try.zeroValue5
  infoByte := by kernel_rfl
  cellsByte := by kernel_rfl
  sizeByte := by kernel_rfl
  neB5 := by decide }
theorem Try.strings_Repeat (s : ByteArray) (c : Nat) (w : World) (hc : c ≤ 9223372036854775807) (hlen : s.size * c ≤ 140737488355328) :
    Calls Try.prog 35 #[.string s, .int .i64 c] w fun e w' => e = .returned (.string ⟨(Lib.repeatL s.data.toList c).toArray⟩) ∧ Below w.heap.size w w' := Any.strings_Repeat Try.lays105 Try.Builder_Extra_105 s c w hc hlen
end Go.Proofs
