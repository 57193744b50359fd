/- Facts of the whole program that every statement of pack asks for. -/
import Derived.Test.YtakffjjnogpolaaFacts
import Derived.Test.YtakffjjnogpolaaLibU
namespace Go.Proofs.Ytakffjjnogpolaa
open Go.RowKit Go.BK
theorem Try.own : ownKnob Try.prog.godebug = none := by kernel_rfl
theorem Try.laidOut : laidOutB Try.prog = true := by kernel_rfl
end Go.Proofs.Ytakffjjnogpolaa
