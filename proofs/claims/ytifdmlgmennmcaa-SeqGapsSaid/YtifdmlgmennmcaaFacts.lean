/- What the tables of this seat say of the types that its functions name. Printed by a program (facts.py). -/
import Derived.Test.YtifdmlgmennmcaaRows
import Derived.Test.YtifdmlgmennmcaaLibC
namespace Go.Proofs.Ytifdmlgmennmcaa
open Go.BK

instance : UndC Try.prog 3 (.int .i64) := ⟨Try.underlying3⟩
instance : ScalC Try.prog 3 := ⟨by kernel_rfl⟩
instance : SzC Try.prog 3 1 := ⟨by kernel_rfl⟩
instance : ByC Try.prog 3 8 := ⟨by kernel_rfl⟩
instance : ZvC Try.prog 3 (.int .i64 0) := ⟨by kernel_rfl⟩
instance : UndC Try.prog 4 .bool := ⟨Try.underlying4⟩
instance : ScalC Try.prog 4 := ⟨by kernel_rfl⟩
instance : SzC Try.prog 4 1 := ⟨by kernel_rfl⟩
instance : ByC Try.prog 4 1 := ⟨by kernel_rfl⟩
instance : ZvC Try.prog 4 (.bool false) := ⟨by kernel_rfl⟩
instance : UndC Try.prog 22 (.slice 3) := ⟨Try.underlying22⟩
instance : ScalC Try.prog 22 := ⟨by kernel_rfl⟩
instance : SzC Try.prog 22 1 := ⟨by kernel_rfl⟩
instance : ByC Try.prog 22 24 := ⟨by kernel_rfl⟩
instance : ZvC Try.prog 22 (.slice none 0 0) := ⟨by kernel_rfl⟩
instance : UndC Try.prog 31 (.int .u64) := ⟨Try.underlying31⟩
instance : ScalC Try.prog 31 := ⟨by kernel_rfl⟩
instance : SzC Try.prog 31 1 := ⟨by kernel_rfl⟩
instance : ByC Try.prog 31 8 := ⟨by kernel_rfl⟩
instance : ZvC Try.prog 31 (.int .u64 0) := ⟨by kernel_rfl⟩
instance : UndC Try.prog 34 (.slice 4) := ⟨Try.underlying34⟩
instance : ScalC Try.prog 34 := ⟨by kernel_rfl⟩
instance : SzC Try.prog 34 1 := ⟨by kernel_rfl⟩
instance : ByC Try.prog 34 24 := ⟨by kernel_rfl⟩
instance : ZvC Try.prog 34 (.slice none 0 0) := ⟨by kernel_rfl⟩
instance : UndC Try.prog 36 (.int .u16) := ⟨Try.underlying36⟩
instance : ScalC Try.prog 36 := ⟨by kernel_rfl⟩
instance : SzC Try.prog 36 1 := ⟨by kernel_rfl⟩
instance : ByC Try.prog 36 2 := ⟨by kernel_rfl⟩
instance : ZvC Try.prog 36 (.int .u16 0) := ⟨by kernel_rfl⟩
instance : UndC Try.prog 37 (.int .i16) := ⟨Try.underlying37⟩
instance : ScalC Try.prog 37 := ⟨by kernel_rfl⟩
instance : SzC Try.prog 37 1 := ⟨by kernel_rfl⟩
instance : ByC Try.prog 37 2 := ⟨by kernel_rfl⟩
instance : ZvC Try.prog 37 (.int .i16 0) := ⟨by kernel_rfl⟩
instance : AggC Try.prog 38 := ⟨by kernel_rfl⟩
instance : SzC Try.prog 38 2 := ⟨by kernel_rfl⟩
instance : ByC Try.prog 38 16 := ⟨by kernel_rfl⟩
instance : ZvC Try.prog 38 (.agg #[.int .i64 0, .int .i64 0]) := ⟨by kernel_rfl⟩
instance : PlC Try.prog 38 [(0, 1), (1, 1)] := ⟨by kernel_rfl⟩
instance : AggC Try.prog 39 := ⟨by kernel_rfl⟩
instance : SzC Try.prog 39 2 := ⟨by kernel_rfl⟩
instance : ByC Try.prog 39 16 := ⟨by kernel_rfl⟩
instance : ZvC Try.prog 39 (.agg #[.int .i64 0, .int .i64 0]) := ⟨by kernel_rfl⟩
instance : PlC Try.prog 39 [(0, 1), (1, 1)] := ⟨by kernel_rfl⟩
instance : FldC Try.prog 39 0 0 := ⟨by kernel_rfl⟩
instance : FldC Try.prog 39 1 1 := ⟨by kernel_rfl⟩
instance : UndC Try.prog 41 (.pointer 39) := ⟨Try.underlying41⟩
instance : ScalC Try.prog 41 := ⟨by kernel_rfl⟩
instance : SzC Try.prog 41 1 := ⟨by kernel_rfl⟩
instance : ByC Try.prog 41 8 := ⟨by kernel_rfl⟩
instance : ZvC Try.prog 41 (.pointer none) := ⟨by kernel_rfl⟩
end Go.Proofs.Ytifdmlgmennmcaa
