/-
  No cell of these rows narrows 'for every input' (looked for: loops, veiled, ifaces, maps, wideKeys, modest, calm, conditions, laid).
  DERIVED. THE GIVEN ROWS OF THIS SEAT. 5 by the template 'for every input the law returns true; each argument reads behind the call as it read before'; 0 by the template 'total and deterministic' (their statements: YtdnpofigagdabaaTotals.lean).
  GIVEN WITH THE SEED: the statements are not yours to turn. If you find one false, say at which input.
  Laid BY PROGRAM, IN A SANDBOX (cutbox-rows.mjs): the forced cells as the released guide's own fill.sh prints them over the translation 250c2bc28caf6610… (all of the seat's roots in one cut). By AI agents, Wed Nov 11 2026. No macro, syntax, notation, axiom, sorry.
-/
import Derived.Test.YtdnpofigagdabaaChecked
import GoSem.Claim
import GoSem.ClaimJoined
import GoSem.ClaimMapViews
import Derived.JoinedTies
import Derived.KernelRfl
namespace Go.Proofs.Ytdnpofigagdabaa
/- THE CELL 'sum', in the pinned program and in every row, IS THE sha256 OF THE DUMP (.gsa) THAT YtdnpofigagdabaaProg.lean LOADS. Nothing in Lean hashes anything: it is a label: what it is worth is what the hold of that sum in a sandbox is worth. -/
noncomputable def Try.pinned : Pinned := { name := "ytdnpofigagdabaa", sum := "250c2bc28caf6610cd199f77b65592689af025bab033f4f1f0faba12a2d56d00", checked := Try.checked }
namespace Rows
def none {H : Type} : Left H := { results := [], args := [] }

/-- 'ballastlaw10.TeleShapes': WHATEVER THE INPUT: true; the input reads as it did. -/
def teleShapesSpec : ChangeSpec := { name := "teleShapes", fn := fun _ => fun
  | [d1, d2] => { results := [.lit (.bool true)], args := [d1, d2] }
  | _ => none }
def teleShapesRow : OpenClaim := { program := "ytdnpofigagdabaa", sum := "250c2bc28caf6610cd199f77b65592689af025bab033f4f1f0faba12a2d56d00", func := "ballast/ballastlaw10.TeleShapes", spec := "teleShapes", unfollowed := true, recurses := true, apart := false }
def TeleShapesSaid : Prop := teleShapesRow.holds Try.pinned (OpenSpec.ofChange teleShapesSpec)

/-- ITS FALSE NEIGHBOUR: 'it returns false'. Refute it at one input. -/
def teleShapesWrong : ChangeSpec := { name := "teleShapes", fn := fun _ => fun
  | [d1, d2] => { results := [.lit (.bool false)], args := [d1, d2] }
  | _ => none }
def TeleShapesWrongFalsely : Prop := teleShapesRow.holds Try.pinned (OpenSpec.ofChange teleShapesWrong)

/-- 'ballastlaw10.TeleEach': WHATEVER THE INPUT: true; the input reads as it did. -/
def teleEachSpec : ChangeSpec := { name := "teleEach", fn := fun _ => fun
  | [d] => { results := [.lit (.bool true)], args := [d] }
  | _ => none }
def teleEachRow : OpenClaim := { program := "ytdnpofigagdabaa", sum := "250c2bc28caf6610cd199f77b65592689af025bab033f4f1f0faba12a2d56d00", func := "ballast/ballastlaw10.TeleEach", spec := "teleEach", unfollowed := true, recurses := true, apart := false }
def TeleEachSaid : Prop := teleEachRow.holds Try.pinned (OpenSpec.ofChange teleEachSpec)

/-- ITS FALSE NEIGHBOUR: 'it returns false'. Refute it at one input. -/
def teleEachWrong : ChangeSpec := { name := "teleEach", fn := fun _ => fun
  | [d] => { results := [.lit (.bool false)], args := [d] }
  | _ => none }
def TeleEachWrongFalsely : Prop := teleEachRow.holds Try.pinned (OpenSpec.ofChange teleEachWrong)

/-- 'ballastlaw10.TeleBytes': WHATEVER THE INPUT: true; the input reads as it did. -/
def teleBytesSpec : ChangeSpec := { name := "teleBytes", fn := fun _ => fun
  | [d1, d2, d3] => { results := [.lit (.bool true)], args := [d1, d2, d3] }
  | _ => none }
def teleBytesRow : OpenClaim := { program := "ytdnpofigagdabaa", sum := "250c2bc28caf6610cd199f77b65592689af025bab033f4f1f0faba12a2d56d00", func := "ballast/ballastlaw10.TeleBytes", spec := "teleBytes", apart := false }
def TeleBytesSaid : Prop := teleBytesRow.holds Try.pinned (OpenSpec.ofChange teleBytesSpec)

/-- ITS FALSE NEIGHBOUR: 'it returns false'. Refute it at one input. -/
def teleBytesWrong : ChangeSpec := { name := "teleBytes", fn := fun _ => fun
  | [d1, d2, d3] => { results := [.lit (.bool false)], args := [d1, d2, d3] }
  | _ => none }
def TeleBytesWrongFalsely : Prop := teleBytesRow.holds Try.pinned (OpenSpec.ofChange teleBytesWrong)

/-- 'ballastlaw10.TeleBack': WHATEVER THE INPUT: true; the input reads as it did. -/
def teleBackSpec : ChangeSpec := { name := "teleBack", fn := fun _ => fun
  | [d1, d2, d3] => { results := [.lit (.bool true)], args := [d1, d2, d3] }
  | _ => none }
def teleBackRow : OpenClaim := { program := "ytdnpofigagdabaa", sum := "250c2bc28caf6610cd199f77b65592689af025bab033f4f1f0faba12a2d56d00", func := "ballast/ballastlaw10.TeleBack", spec := "teleBack", apart := false }
def TeleBackSaid : Prop := teleBackRow.holds Try.pinned (OpenSpec.ofChange teleBackSpec)

/-- ITS FALSE NEIGHBOUR: 'it returns false'. Refute it at one input. -/
def teleBackWrong : ChangeSpec := { name := "teleBack", fn := fun _ => fun
  | [d1, d2, d3] => { results := [.lit (.bool false)], args := [d1, d2, d3] }
  | _ => none }
def TeleBackWrongFalsely : Prop := teleBackRow.holds Try.pinned (OpenSpec.ofChange teleBackWrong)

/-- 'ballastlaw10.TeleCross': WHATEVER THE INPUT: true; the input reads as it did. -/
def teleCrossSpec : ChangeSpec := { name := "teleCross", fn := fun _ => fun
  | [d1, d2, d3] => { results := [.lit (.bool true)], args := [d1, d2, d3] }
  | _ => none }
def teleCrossRow : OpenClaim := { program := "ytdnpofigagdabaa", sum := "250c2bc28caf6610cd199f77b65592689af025bab033f4f1f0faba12a2d56d00", func := "ballast/ballastlaw10.TeleCross", spec := "teleCross", apart := false }
def TeleCrossSaid : Prop := teleCrossRow.holds Try.pinned (OpenSpec.ofChange teleCrossSpec)

/-- ITS FALSE NEIGHBOUR: 'it returns false'. Refute it at one input. -/
def teleCrossWrong : ChangeSpec := { name := "teleCross", fn := fun _ => fun
  | [d1, d2, d3] => { results := [.lit (.bool false)], args := [d1, d2, d3] }
  | _ => none }
def TeleCrossWrongFalsely : Prop := teleCrossRow.holds Try.pinned (OpenSpec.ofChange teleCrossWrong)

/- THE SECOND FORM. 'bulk': how many values and letters a reading holds, each counted each time it is reached (what is shared counts as often as it is met; a slice's spare places count too). A statement '..UptoSaid' is the law's where the arguments, and the package variables that the reading takes, are together of bulk at most 1048576: NARROWER than '..Said'. Prove '..Said' where nothing that the law and all that it calls make is longer than what came in: it says more and counts as full. Else prove '..UptoSaid'. A law counts once. -/
mutual
def uptoBulk {H : Type} : DataW H → Nat
  | .lit (.string bytes) => bytes.length + 1
  | .lit _ => 1
  | .nil => 1
  | .ptr d => uptoBulk d + 1
  | .slice elems spare => uptoBulkAll elems + uptoBulkAll spare + 1
  | .agg parts => uptoBulkAll parts + 1
  | .iface _ d => uptoBulk d + 1
  | .map entries => uptoBulkEntries entries + 1
  | .held _ => 1
def uptoBulkAll {H : Type} : List (DataW H) → Nat
  | [] => 0
  | d :: r => uptoBulk d + uptoBulkAll r
def uptoBulkEntries {H : Type} : List (Lit × DataW H) → Nat
  | [] => 0
  | x :: r => uptoBulkEntry x + uptoBulkEntries r
def uptoBulkEntry {H : Type} : Lit × DataW H → Nat
  | (.string bytes, d) => bytes.length + uptoBulk d + 1
  | (_, d) => uptoBulk d + 1
 end
def uptoSmall : (H : Type) → List (DataW H) → Bool := fun _ ds => decide (uptoBulkAll ds ≤ 1048576)
def OpenSpec.upto (s : _root_.Go.ChangeSpec) : _root_.Go.OpenSpec := { _root_.Go.OpenSpec.ofChange s with cond := some uptoSmall }

/-- 'ballastlaw10.TeleShapes', WHERE WHAT IT READS IS OF BULK AT MOST 1048576: true; the input reads as it did. -/
def teleShapesUptoRow : OpenClaim := { program := "ytdnpofigagdabaa", sum := "250c2bc28caf6610cd199f77b65592689af025bab033f4f1f0faba12a2d56d00", func := "ballast/ballastlaw10.TeleShapes", spec := "teleShapes", unfollowed := true, recurses := true, apart := false, narrowed := true }
def TeleShapesUptoSaid : Prop := teleShapesUptoRow.holds Try.pinned (OpenSpec.upto teleShapesSpec)

/-- 'ballastlaw10.TeleEach', WHERE WHAT IT READS IS OF BULK AT MOST 1048576: true; the input reads as it did. -/
def teleEachUptoRow : OpenClaim := { program := "ytdnpofigagdabaa", sum := "250c2bc28caf6610cd199f77b65592689af025bab033f4f1f0faba12a2d56d00", func := "ballast/ballastlaw10.TeleEach", spec := "teleEach", unfollowed := true, recurses := true, apart := false, narrowed := true }
def TeleEachUptoSaid : Prop := teleEachUptoRow.holds Try.pinned (OpenSpec.upto teleEachSpec)

/-- 'ballastlaw10.TeleBytes', WHERE WHAT IT READS IS OF BULK AT MOST 1048576: true; the input reads as it did. -/
def teleBytesUptoRow : OpenClaim := { program := "ytdnpofigagdabaa", sum := "250c2bc28caf6610cd199f77b65592689af025bab033f4f1f0faba12a2d56d00", func := "ballast/ballastlaw10.TeleBytes", spec := "teleBytes", apart := false, narrowed := true }
def TeleBytesUptoSaid : Prop := teleBytesUptoRow.holds Try.pinned (OpenSpec.upto teleBytesSpec)

/-- 'ballastlaw10.TeleBack', WHERE WHAT IT READS IS OF BULK AT MOST 1048576: true; the input reads as it did. -/
def teleBackUptoRow : OpenClaim := { program := "ytdnpofigagdabaa", sum := "250c2bc28caf6610cd199f77b65592689af025bab033f4f1f0faba12a2d56d00", func := "ballast/ballastlaw10.TeleBack", spec := "teleBack", apart := false, narrowed := true }
def TeleBackUptoSaid : Prop := teleBackUptoRow.holds Try.pinned (OpenSpec.upto teleBackSpec)

/-- 'ballastlaw10.TeleCross', WHERE WHAT IT READS IS OF BULK AT MOST 1048576: true; the input reads as it did. -/
def teleCrossUptoRow : OpenClaim := { program := "ytdnpofigagdabaa", sum := "250c2bc28caf6610cd199f77b65592689af025bab033f4f1f0faba12a2d56d00", func := "ballast/ballastlaw10.TeleCross", spec := "teleCross", apart := false, narrowed := true }
def TeleCrossUptoSaid : Prop := teleCrossUptoRow.holds Try.pinned (OpenSpec.upto teleCrossSpec)

end Rows
end Go.Proofs.Ytdnpofigagdabaa
