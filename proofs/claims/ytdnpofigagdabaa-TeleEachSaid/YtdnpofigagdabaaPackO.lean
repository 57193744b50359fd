/- Facts of the whole program that every statement of pack asks for. -/
import Derived.Test.YtdnpofigagdabaaPackA
namespace Go.Proofs.Ytdnpofigagdabaa
open Go.RowKit Go.BK
theorem Try.own : ownKnob Try.prog.godebug = none := by kernel_rfl
theorem Try.laidOut : laidOutB Try.prog = true := by kernel_rfl
end Go.Proofs.Ytdnpofigagdabaa
