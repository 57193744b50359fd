/- Facts of the whole program that every statement of pack asks for. -/
import Derived.Test.YtehgfhjocfaciaaFacts
import Derived.Test.YtehgfhjocfaciaaLibU
namespace Go.Proofs.Ytehgfhjocfaciaa
open Go.RowKit Go.BK
theorem Try.own : ownKnob Try.prog.godebug = none := by kernel_rfl
theorem Try.laidOut : laidOutB Try.prog = true := by kernel_rfl
end Go.Proofs.Ytehgfhjocfaciaa
