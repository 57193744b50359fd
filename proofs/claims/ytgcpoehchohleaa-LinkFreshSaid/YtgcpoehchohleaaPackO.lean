/- Facts of the whole program that every statement of pack asks for. -/
import Derived.Test.YtgcpoehchohleaaFacts
import Derived.Test.YtgcpoehchohleaaLibU
namespace Go.Proofs.Ytgcpoehchohleaa
open Go.RowKit Go.BK
theorem Try.own : ownKnob Try.prog.godebug = none := by kernel_rfl
theorem Try.laidOut : laidOutB Try.prog = true := by kernel_rfl
end Go.Proofs.Ytgcpoehchohleaa
