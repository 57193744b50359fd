/-
  No cell of these rows narrows 'for every input' (looked for: loops, veiled, ifaces, maps, wideKeys, modest, calm, conditions, laid).
  DERIVED. THE GIVEN ROWS OF THIS SEAT. 7 by the template 'for every input the law returns true; each argument reads behind the call as it read before'; 0 by the template 'total and deterministic' (their statements: YtehgfhjocfaciaaTotals.lean).
  GIVEN WITH THE SEED: the statements are not yours to turn. If you find one false, say at which input.
  Laid BY PROGRAM, IN A SANDBOX (cutbox-rows.mjs): the forced cells as the released guide's own fill.sh prints them over the translation cc085ed804c8cad0… (all of the seat's roots in one cut). By AI agents, Wed Nov 11 2026. No macro, syntax, notation, axiom, sorry.
-/
import Derived.Test.YtehgfhjocfaciaaChecked
import GoSem.Claim
import GoSem.ClaimJoined
import GoSem.ClaimMapViews
import Derived.JoinedTies
import Derived.KernelRfl
namespace Go.Proofs.Ytehgfhjocfaciaa
/- THE CELL 'sum', in the pinned program and in every row, IS THE sha256 OF THE DUMP (.gsa) THAT YtehgfhjocfaciaaProg.lean LOADS. Nothing in Lean hashes anything: it is a label: what it is worth is what the hold of that sum in a sandbox is worth. -/
noncomputable def Try.pinned : Pinned := { name := "ytehgfhjocfaciaa", sum := "cc085ed804c8cad09b487a9844a32f5f8497f44156f9297fef49b855abe1ace8", checked := Try.checked }
namespace Rows
def none {H : Type} : Left H := { results := [], args := [] }

/-- 'ballastlaw17.DeskHandles': WHATEVER THE INPUT: true; the input reads as it did. -/
def deskHandlesSpec : ChangeSpec := { name := "deskHandles", fn := fun _ => fun
  | [d1, d2, d3] => { results := [.lit (.bool true)], args := [d1, d2, d3] }
  | _ => none }
def deskHandlesRow : OpenClaim := { program := "ytehgfhjocfaciaa", sum := "cc085ed804c8cad09b487a9844a32f5f8497f44156f9297fef49b855abe1ace8", func := "ballast/ballastlaw17.DeskHandles", spec := "deskHandles", unfollowed := true, recurses := true, apart := false }
def DeskHandlesSaid : Prop := deskHandlesRow.holds Try.pinned (OpenSpec.ofChange deskHandlesSpec)

/-- ITS FALSE NEIGHBOUR: 'it returns false'. Refute it at one input. -/
def deskHandlesWrong : ChangeSpec := { name := "deskHandles", fn := fun _ => fun
  | [d1, d2, d3] => { results := [.lit (.bool false)], args := [d1, d2, d3] }
  | _ => none }
def DeskHandlesWrongFalsely : Prop := deskHandlesRow.holds Try.pinned (OpenSpec.ofChange deskHandlesWrong)

/-- 'ballastlaw17.DeskSteps': WHATEVER THE INPUT: true; the input reads as it did. -/
def deskStepsSpec : ChangeSpec := { name := "deskSteps", fn := fun _ => fun
  | [d] => { results := [.lit (.bool true)], args := [d] }
  | _ => none }
def deskStepsRow : OpenClaim := { program := "ytehgfhjocfaciaa", sum := "cc085ed804c8cad09b487a9844a32f5f8497f44156f9297fef49b855abe1ace8", func := "ballast/ballastlaw17.DeskSteps", spec := "deskSteps", unfollowed := true, recurses := true, apart := false }
def DeskStepsSaid : Prop := deskStepsRow.holds Try.pinned (OpenSpec.ofChange deskStepsSpec)

/-- ITS FALSE NEIGHBOUR: 'it returns false'. Refute it at one input. -/
def deskStepsWrong : ChangeSpec := { name := "deskSteps", fn := fun _ => fun
  | [d] => { results := [.lit (.bool false)], args := [d] }
  | _ => none }
def DeskStepsWrongFalsely : Prop := deskStepsRow.holds Try.pinned (OpenSpec.ofChange deskStepsWrong)

/-- 'ballastlaw17.DeskApart': WHATEVER THE INPUT: true; the input reads as it did. -/
def deskApartSpec : ChangeSpec := { name := "deskApart", fn := fun _ => fun
  | [d1, d2, d3] => { results := [.lit (.bool true)], args := [d1, d2, d3] }
  | _ => none }
def deskApartRow : OpenClaim := { program := "ytehgfhjocfaciaa", sum := "cc085ed804c8cad09b487a9844a32f5f8497f44156f9297fef49b855abe1ace8", func := "ballast/ballastlaw17.DeskApart", spec := "deskApart", unfollowed := true, recurses := true, apart := false }
def DeskApartSaid : Prop := deskApartRow.holds Try.pinned (OpenSpec.ofChange deskApartSpec)

/-- ITS FALSE NEIGHBOUR: 'it returns false'. Refute it at one input. -/
def deskApartWrong : ChangeSpec := { name := "deskApart", fn := fun _ => fun
  | [d1, d2, d3] => { results := [.lit (.bool false)], args := [d1, d2, d3] }
  | _ => none }
def DeskApartWrongFalsely : Prop := deskApartRow.holds Try.pinned (OpenSpec.ofChange deskApartWrong)

/-- 'ballastlaw17.DeskLevels': WHATEVER THE INPUT: true; the input reads as it did. -/
def deskLevelsSpec : ChangeSpec := { name := "deskLevels", fn := fun _ => fun
  | [d1, d2, d3] => { results := [.lit (.bool true)], args := [d1, d2, d3] }
  | _ => none }
def deskLevelsRow : OpenClaim := { program := "ytehgfhjocfaciaa", sum := "cc085ed804c8cad09b487a9844a32f5f8497f44156f9297fef49b855abe1ace8", func := "ballast/ballastlaw17.DeskLevels", spec := "deskLevels", unfollowed := true, recurses := true, apart := false }
def DeskLevelsSaid : Prop := deskLevelsRow.holds Try.pinned (OpenSpec.ofChange deskLevelsSpec)

/-- ITS FALSE NEIGHBOUR: 'it returns false'. Refute it at one input. -/
def deskLevelsWrong : ChangeSpec := { name := "deskLevels", fn := fun _ => fun
  | [d1, d2, d3] => { results := [.lit (.bool false)], args := [d1, d2, d3] }
  | _ => none }
def DeskLevelsWrongFalsely : Prop := deskLevelsRow.holds Try.pinned (OpenSpec.ofChange deskLevelsWrong)

/-- 'ballastlaw17.DeskWords': WHATEVER THE INPUT: true; the input reads as it did. -/
def deskWordsSpec : ChangeSpec := { name := "deskWords", fn := fun _ => fun
  | [d1, d2, d3] => { results := [.lit (.bool true)], args := [d1, d2, d3] }
  | _ => none }
def deskWordsRow : OpenClaim := { program := "ytehgfhjocfaciaa", sum := "cc085ed804c8cad09b487a9844a32f5f8497f44156f9297fef49b855abe1ace8", func := "ballast/ballastlaw17.DeskWords", spec := "deskWords", unfollowed := true, recurses := true, apart := false }
def DeskWordsSaid : Prop := deskWordsRow.holds Try.pinned (OpenSpec.ofChange deskWordsSpec)

/-- ITS FALSE NEIGHBOUR: 'it returns false'. Refute it at one input. -/
def deskWordsWrong : ChangeSpec := { name := "deskWords", fn := fun _ => fun
  | [d1, d2, d3] => { results := [.lit (.bool false)], args := [d1, d2, d3] }
  | _ => none }
def DeskWordsWrongFalsely : Prop := deskWordsRow.holds Try.pinned (OpenSpec.ofChange deskWordsWrong)

/-- 'ballastlaw17.DeskBytes': WHATEVER THE INPUT: true; the input reads as it did. -/
def deskBytesSpec : ChangeSpec := { name := "deskBytes", fn := fun _ => fun
  | [d1, d2, d3] => { results := [.lit (.bool true)], args := [d1, d2, d3] }
  | _ => none }
def deskBytesRow : OpenClaim := { program := "ytehgfhjocfaciaa", sum := "cc085ed804c8cad09b487a9844a32f5f8497f44156f9297fef49b855abe1ace8", func := "ballast/ballastlaw17.DeskBytes", spec := "deskBytes", inPlace := ["internal/abi.NoEscape", "internal/bytealg.MakeNoZero"], unfollowed := true, recurses := true, apart := false }
def DeskBytesSaid : Prop := deskBytesRow.holds Try.pinned (OpenSpec.ofChange deskBytesSpec)

/-- ITS FALSE NEIGHBOUR: 'it returns false'. Refute it at one input. -/
def deskBytesWrong : ChangeSpec := { name := "deskBytes", fn := fun _ => fun
  | [d1, d2, d3] => { results := [.lit (.bool false)], args := [d1, d2, d3] }
  | _ => none }
def DeskBytesWrongFalsely : Prop := deskBytesRow.holds Try.pinned (OpenSpec.ofChange deskBytesWrong)

/-- 'ballastlaw17.DeskBack': WHATEVER THE INPUT: true; the input reads as it did. -/
def deskBackSpec : ChangeSpec := { name := "deskBack", fn := fun _ => fun
  | [d1, d2, d3] => { results := [.lit (.bool true)], args := [d1, d2, d3] }
  | _ => none }
def deskBackRow : OpenClaim := { program := "ytehgfhjocfaciaa", sum := "cc085ed804c8cad09b487a9844a32f5f8497f44156f9297fef49b855abe1ace8", func := "ballast/ballastlaw17.DeskBack", spec := "deskBack", inPlace := ["internal/abi.NoEscape", "internal/bytealg.MakeNoZero"], unfollowed := true, recurses := true, apart := false }
def DeskBackSaid : Prop := deskBackRow.holds Try.pinned (OpenSpec.ofChange deskBackSpec)

/-- ITS FALSE NEIGHBOUR: 'it returns false'. Refute it at one input. -/
def deskBackWrong : ChangeSpec := { name := "deskBack", fn := fun _ => fun
  | [d1, d2, d3] => { results := [.lit (.bool false)], args := [d1, d2, d3] }
  | _ => none }
def DeskBackWrongFalsely : Prop := deskBackRow.holds Try.pinned (OpenSpec.ofChange deskBackWrong)

/- THE SECOND FORM. 'bulk': how many values and letters a reading holds, each counted each time it is reached (what is shared counts as often as it is met; a slice's spare places count too). A statement '..UptoSaid' is the law's where the arguments, and the package variables that the reading takes, are together of bulk at most 1048576: NARROWER than '..Said'. Prove '..Said' where nothing that the law and all that it calls make is longer than what came in: it says more and counts as full. Else prove '..UptoSaid'. A law counts once. -/
mutual
def uptoBulk {H : Type} : DataW H → Nat
  | .lit (.string bytes) => bytes.length + 1
  | .lit _ => 1
  | .nil => 1
  | .ptr d => uptoBulk d + 1
  | .slice elems spare => uptoBulkAll elems + uptoBulkAll spare + 1
  | .agg parts => uptoBulkAll parts + 1
  | .iface _ d => uptoBulk d + 1
  | .map entries => uptoBulkEntries entries + 1
  | .held _ => 1
def uptoBulkAll {H : Type} : List (DataW H) → Nat
  | [] => 0
  | d :: r => uptoBulk d + uptoBulkAll r
def uptoBulkEntries {H : Type} : List (Lit × DataW H) → Nat
  | [] => 0
  | x :: r => uptoBulkEntry x + uptoBulkEntries r
def uptoBulkEntry {H : Type} : Lit × DataW H → Nat
  | (.string bytes, d) => bytes.length + uptoBulk d + 1
  | (_, d) => uptoBulk d + 1
 end
def uptoSmall : (H : Type) → List (DataW H) → Bool := fun _ ds => decide (uptoBulkAll ds ≤ 1048576)
def OpenSpec.upto (s : _root_.Go.ChangeSpec) : _root_.Go.OpenSpec := { _root_.Go.OpenSpec.ofChange s with cond := some uptoSmall }

/-- 'ballastlaw17.DeskHandles', WHERE WHAT IT READS IS OF BULK AT MOST 1048576: true; the input reads as it did. -/
def deskHandlesUptoRow : OpenClaim := { program := "ytehgfhjocfaciaa", sum := "cc085ed804c8cad09b487a9844a32f5f8497f44156f9297fef49b855abe1ace8", func := "ballast/ballastlaw17.DeskHandles", spec := "deskHandles", unfollowed := true, recurses := true, apart := false, narrowed := true }
def DeskHandlesUptoSaid : Prop := deskHandlesUptoRow.holds Try.pinned (OpenSpec.upto deskHandlesSpec)

/-- 'ballastlaw17.DeskSteps', WHERE WHAT IT READS IS OF BULK AT MOST 1048576: true; the input reads as it did. -/
def deskStepsUptoRow : OpenClaim := { program := "ytehgfhjocfaciaa", sum := "cc085ed804c8cad09b487a9844a32f5f8497f44156f9297fef49b855abe1ace8", func := "ballast/ballastlaw17.DeskSteps", spec := "deskSteps", unfollowed := true, recurses := true, apart := false, narrowed := true }
def DeskStepsUptoSaid : Prop := deskStepsUptoRow.holds Try.pinned (OpenSpec.upto deskStepsSpec)

/-- 'ballastlaw17.DeskApart', WHERE WHAT IT READS IS OF BULK AT MOST 1048576: true; the input reads as it did. -/
def deskApartUptoRow : OpenClaim := { program := "ytehgfhjocfaciaa", sum := "cc085ed804c8cad09b487a9844a32f5f8497f44156f9297fef49b855abe1ace8", func := "ballast/ballastlaw17.DeskApart", spec := "deskApart", unfollowed := true, recurses := true, apart := false, narrowed := true }
def DeskApartUptoSaid : Prop := deskApartUptoRow.holds Try.pinned (OpenSpec.upto deskApartSpec)

/-- 'ballastlaw17.DeskLevels', WHERE WHAT IT READS IS OF BULK AT MOST 1048576: true; the input reads as it did. -/
def deskLevelsUptoRow : OpenClaim := { program := "ytehgfhjocfaciaa", sum := "cc085ed804c8cad09b487a9844a32f5f8497f44156f9297fef49b855abe1ace8", func := "ballast/ballastlaw17.DeskLevels", spec := "deskLevels", unfollowed := true, recurses := true, apart := false, narrowed := true }
def DeskLevelsUptoSaid : Prop := deskLevelsUptoRow.holds Try.pinned (OpenSpec.upto deskLevelsSpec)

/-- 'ballastlaw17.DeskWords', WHERE WHAT IT READS IS OF BULK AT MOST 1048576: true; the input reads as it did. -/
def deskWordsUptoRow : OpenClaim := { program := "ytehgfhjocfaciaa", sum := "cc085ed804c8cad09b487a9844a32f5f8497f44156f9297fef49b855abe1ace8", func := "ballast/ballastlaw17.DeskWords", spec := "deskWords", unfollowed := true, recurses := true, apart := false, narrowed := true }
def DeskWordsUptoSaid : Prop := deskWordsUptoRow.holds Try.pinned (OpenSpec.upto deskWordsSpec)

/-- 'ballastlaw17.DeskBytes', WHERE WHAT IT READS IS OF BULK AT MOST 1048576: true; the input reads as it did. -/
def deskBytesUptoRow : OpenClaim := { program := "ytehgfhjocfaciaa", sum := "cc085ed804c8cad09b487a9844a32f5f8497f44156f9297fef49b855abe1ace8", func := "ballast/ballastlaw17.DeskBytes", spec := "deskBytes", inPlace := ["internal/abi.NoEscape", "internal/bytealg.MakeNoZero"], unfollowed := true, recurses := true, apart := false, narrowed := true }
def DeskBytesUptoSaid : Prop := deskBytesUptoRow.holds Try.pinned (OpenSpec.upto deskBytesSpec)

/-- 'ballastlaw17.DeskBack', WHERE WHAT IT READS IS OF BULK AT MOST 1048576: true; the input reads as it did. -/
def deskBackUptoRow : OpenClaim := { program := "ytehgfhjocfaciaa", sum := "cc085ed804c8cad09b487a9844a32f5f8497f44156f9297fef49b855abe1ace8", func := "ballast/ballastlaw17.DeskBack", spec := "deskBack", inPlace := ["internal/abi.NoEscape", "internal/bytealg.MakeNoZero"], unfollowed := true, recurses := true, apart := false, narrowed := true }
def DeskBackUptoSaid : Prop := deskBackUptoRow.holds Try.pinned (OpenSpec.upto deskBackSpec)

end Rows
end Go.Proofs.Ytehgfhjocfaciaa
