/-
  No cell of these rows narrows 'for every input' (looked for: loops, veiled, ifaces, maps, wideKeys, modest, calm, conditions, laid).
  DERIVED. THE GIVEN ROWS OF THIS SEAT. 7 by the template 'for every input the law returns true; each argument reads behind the call as it read before'; 0 by the template 'total and deterministic' (their statements: YtecfagifkpgedaaTotals.lean).
  GIVEN WITH THE SEED: the statements are not yours to turn. If you find one false, say at which input.
  Laid BY PROGRAM, IN A SANDBOX (cutbox-rows.mjs): the forced cells as the released guide's own fill.sh prints them over the translation 6445488e2f4b61b5… (all of the seat's roots in one cut). By AI agents, Wed Nov 11 2026. No macro, syntax, notation, axiom, sorry.
-/
import Derived.Test.YtecfagifkpgedaaChecked
import GoSem.Claim
import GoSem.ClaimJoined
import GoSem.ClaimMapViews
import Derived.JoinedTies
import Derived.KernelRfl
namespace Go.Proofs.Ytecfagifkpgedaa
/- THE CELL 'sum', in the pinned program and in every row, IS THE sha256 OF THE DUMP (.gsa) THAT YtecfagifkpgedaaProg.lean LOADS. Nothing in Lean hashes anything: it is a label: what it is worth is what the hold of that sum in a sandbox is worth. -/
noncomputable def Try.pinned : Pinned := { name := "ytecfagifkpgedaa", sum := "6445488e2f4b61b575cd85cbe91104ed97057c52c53486b936d74db0fa0c0845", checked := Try.checked }
namespace Rows
def none {H : Type} : Left H := { results := [], args := [] }

/-- 'ballastlaw02.SealExact': WHATEVER THE INPUT: true; the input reads as it did. -/
def sealExactSpec : ChangeSpec := { name := "sealExact", fn := fun _ => fun
  | [d1, d2, d3] => { results := [.lit (.bool true)], args := [d1, d2, d3] }
  | _ => none }
def sealExactRow : OpenClaim := { program := "ytecfagifkpgedaa", sum := "6445488e2f4b61b575cd85cbe91104ed97057c52c53486b936d74db0fa0c0845", func := "ballast/ballastlaw02.SealExact", spec := "sealExact", inPlace := ["internal/abi.NoEscape", "internal/bytealg.MakeNoZero"], apart := false }
def SealExactSaid : Prop := sealExactRow.holds Try.pinned (OpenSpec.ofChange sealExactSpec)

/-- ITS FALSE NEIGHBOUR: 'it returns false'. Refute it at one input. -/
def sealExactWrong : ChangeSpec := { name := "sealExact", fn := fun _ => fun
  | [d1, d2, d3] => { results := [.lit (.bool false)], args := [d1, d2, d3] }
  | _ => none }
def SealExactWrongFalsely : Prop := sealExactRow.holds Try.pinned (OpenSpec.ofChange sealExactWrong)

/-- 'ballastlaw02.SealBack': WHATEVER THE INPUT: true; the input reads as it did. -/
def sealBackSpec : ChangeSpec := { name := "sealBack", fn := fun _ => fun
  | [d1, d2] => { results := [.lit (.bool true)], args := [d1, d2] }
  | _ => none }
def sealBackRow : OpenClaim := { program := "ytecfagifkpgedaa", sum := "6445488e2f4b61b575cd85cbe91104ed97057c52c53486b936d74db0fa0c0845", func := "ballast/ballastlaw02.SealBack", spec := "sealBack", inPlace := ["internal/abi.NoEscape", "internal/bytealg.MakeNoZero"], apart := false }
def SealBackSaid : Prop := sealBackRow.holds Try.pinned (OpenSpec.ofChange sealBackSpec)

/-- ITS FALSE NEIGHBOUR: 'it returns false'. Refute it at one input. -/
def sealBackWrong : ChangeSpec := { name := "sealBack", fn := fun _ => fun
  | [d1, d2] => { results := [.lit (.bool false)], args := [d1, d2] }
  | _ => none }
def SealBackWrongFalsely : Prop := sealBackRow.holds Try.pinned (OpenSpec.ofChange sealBackWrong)

/-- 'ballastlaw02.SealSpoilt': WHATEVER THE INPUT: true; the input reads as it did. -/
def sealSpoiltSpec : ChangeSpec := { name := "sealSpoilt", fn := fun _ => fun
  | [d1, d2, d3] => { results := [.lit (.bool true)], args := [d1, d2, d3] }
  | _ => none }
def sealSpoiltRow : OpenClaim := { program := "ytecfagifkpgedaa", sum := "6445488e2f4b61b575cd85cbe91104ed97057c52c53486b936d74db0fa0c0845", func := "ballast/ballastlaw02.SealSpoilt", spec := "sealSpoilt", inPlace := ["internal/abi.NoEscape", "internal/bytealg.MakeNoZero"], apart := false }
def SealSpoiltSaid : Prop := sealSpoiltRow.holds Try.pinned (OpenSpec.ofChange sealSpoiltSpec)

/-- ITS FALSE NEIGHBOUR: 'it returns false'. Refute it at one input. -/
def sealSpoiltWrong : ChangeSpec := { name := "sealSpoilt", fn := fun _ => fun
  | [d1, d2, d3] => { results := [.lit (.bool false)], args := [d1, d2, d3] }
  | _ => none }
def SealSpoiltWrongFalsely : Prop := sealSpoiltRow.holds Try.pinned (OpenSpec.ofChange sealSpoiltWrong)

/-- 'ballastlaw02.SealRows': WHATEVER THE INPUT: true; the input reads as it did. -/
def sealRowsSpec : ChangeSpec := { name := "sealRows", fn := fun _ => fun
  | [d] => { results := [.lit (.bool true)], args := [d] }
  | _ => none }
def sealRowsRow : OpenClaim := { program := "ytecfagifkpgedaa", sum := "6445488e2f4b61b575cd85cbe91104ed97057c52c53486b936d74db0fa0c0845", func := "ballast/ballastlaw02.SealRows", spec := "sealRows", inPlace := ["internal/abi.NoEscape", "internal/bytealg.MakeNoZero"], apart := false }
def SealRowsSaid : Prop := sealRowsRow.holds Try.pinned (OpenSpec.ofChange sealRowsSpec)

/-- ITS FALSE NEIGHBOUR: 'it returns false'. Refute it at one input. -/
def sealRowsWrong : ChangeSpec := { name := "sealRows", fn := fun _ => fun
  | [d] => { results := [.lit (.bool false)], args := [d] }
  | _ => none }
def SealRowsWrongFalsely : Prop := sealRowsRow.holds Try.pinned (OpenSpec.ofChange sealRowsWrong)

/-- 'ballastlaw02.SealCut': WHATEVER THE INPUT: true; the input reads as it did. -/
def sealCutSpec : ChangeSpec := { name := "sealCut", fn := fun _ => fun
  | [d1, d2, d3] => { results := [.lit (.bool true)], args := [d1, d2, d3] }
  | _ => none }
def sealCutRow : OpenClaim := { program := "ytecfagifkpgedaa", sum := "6445488e2f4b61b575cd85cbe91104ed97057c52c53486b936d74db0fa0c0845", func := "ballast/ballastlaw02.SealCut", spec := "sealCut", inPlace := ["internal/abi.NoEscape", "internal/bytealg.MakeNoZero"], apart := false }
def SealCutSaid : Prop := sealCutRow.holds Try.pinned (OpenSpec.ofChange sealCutSpec)

/-- ITS FALSE NEIGHBOUR: 'it returns false'. Refute it at one input. -/
def sealCutWrong : ChangeSpec := { name := "sealCut", fn := fun _ => fun
  | [d1, d2, d3] => { results := [.lit (.bool false)], args := [d1, d2, d3] }
  | _ => none }
def SealCutWrongFalsely : Prop := sealCutRow.holds Try.pinned (OpenSpec.ofChange sealCutWrong)

/-- 'ballastlaw02.SealParts': WHATEVER THE INPUT: true; the input reads as it did. -/
def sealPartsSpec : ChangeSpec := { name := "sealParts", fn := fun _ => fun
  | [d1, d2, d3] => { results := [.lit (.bool true)], args := [d1, d2, d3] }
  | _ => none }
def sealPartsRow : OpenClaim := { program := "ytecfagifkpgedaa", sum := "6445488e2f4b61b575cd85cbe91104ed97057c52c53486b936d74db0fa0c0845", func := "ballast/ballastlaw02.SealParts", spec := "sealParts", inPlace := ["internal/abi.NoEscape", "internal/bytealg.MakeNoZero"], apart := false }
def SealPartsSaid : Prop := sealPartsRow.holds Try.pinned (OpenSpec.ofChange sealPartsSpec)

/-- ITS FALSE NEIGHBOUR: 'it returns false'. Refute it at one input. -/
def sealPartsWrong : ChangeSpec := { name := "sealParts", fn := fun _ => fun
  | [d1, d2, d3] => { results := [.lit (.bool false)], args := [d1, d2, d3] }
  | _ => none }
def SealPartsWrongFalsely : Prop := sealPartsRow.holds Try.pinned (OpenSpec.ofChange sealPartsWrong)

/-- 'ballastlaw02.SealLinear': WHATEVER THE INPUT: true; the input reads as it did. -/
def sealLinearSpec : ChangeSpec := { name := "sealLinear", fn := fun _ => fun
  | [d1, d2] => { results := [.lit (.bool true)], args := [d1, d2] }
  | _ => none }
def sealLinearRow : OpenClaim := { program := "ytecfagifkpgedaa", sum := "6445488e2f4b61b575cd85cbe91104ed97057c52c53486b936d74db0fa0c0845", func := "ballast/ballastlaw02.SealLinear", spec := "sealLinear", inPlace := ["internal/abi.NoEscape", "internal/bytealg.MakeNoZero"], apart := false }
def SealLinearSaid : Prop := sealLinearRow.holds Try.pinned (OpenSpec.ofChange sealLinearSpec)

/-- ITS FALSE NEIGHBOUR: 'it returns false'. Refute it at one input. -/
def sealLinearWrong : ChangeSpec := { name := "sealLinear", fn := fun _ => fun
  | [d1, d2] => { results := [.lit (.bool false)], args := [d1, d2] }
  | _ => none }
def SealLinearWrongFalsely : Prop := sealLinearRow.holds Try.pinned (OpenSpec.ofChange sealLinearWrong)

/- THE SECOND FORM. 'bulk': how many values and letters a reading holds, each counted each time it is reached (what is shared counts as often as it is met; a slice's spare places count too). A statement '..UptoSaid' is the law's where the arguments, and the package variables that the reading takes, are together of bulk at most 1048576: NARROWER than '..Said'. Prove '..Said' where nothing that the law and all that it calls make is longer than what came in: it says more and counts as full. Else prove '..UptoSaid'. A law counts once. -/
mutual
def uptoBulk {H : Type} : DataW H → Nat
  | .lit (.string bytes) => bytes.length + 1
  | .lit _ => 1
  | .nil => 1
  | .ptr d => uptoBulk d + 1
  | .slice elems spare => uptoBulkAll elems + uptoBulkAll spare + 1
  | .agg parts => uptoBulkAll parts + 1
  | .iface _ d => uptoBulk d + 1
  | .map entries => uptoBulkEntries entries + 1
  | .held _ => 1
def uptoBulkAll {H : Type} : List (DataW H) → Nat
  | [] => 0
  | d :: r => uptoBulk d + uptoBulkAll r
def uptoBulkEntries {H : Type} : List (Lit × DataW H) → Nat
  | [] => 0
  | x :: r => uptoBulkEntry x + uptoBulkEntries r
def uptoBulkEntry {H : Type} : Lit × DataW H → Nat
  | (.string bytes, d) => bytes.length + uptoBulk d + 1
  | (_, d) => uptoBulk d + 1
 end
def uptoSmall : (H : Type) → List (DataW H) → Bool := fun _ ds => decide (uptoBulkAll ds ≤ 1048576)
def OpenSpec.upto (s : _root_.Go.ChangeSpec) : _root_.Go.OpenSpec := { _root_.Go.OpenSpec.ofChange s with cond := some uptoSmall }

/-- 'ballastlaw02.SealExact', WHERE WHAT IT READS IS OF BULK AT MOST 1048576: true; the input reads as it did. -/
def sealExactUptoRow : OpenClaim := { program := "ytecfagifkpgedaa", sum := "6445488e2f4b61b575cd85cbe91104ed97057c52c53486b936d74db0fa0c0845", func := "ballast/ballastlaw02.SealExact", spec := "sealExact", inPlace := ["internal/abi.NoEscape", "internal/bytealg.MakeNoZero"], apart := false, narrowed := true }
def SealExactUptoSaid : Prop := sealExactUptoRow.holds Try.pinned (OpenSpec.upto sealExactSpec)

/-- 'ballastlaw02.SealBack', WHERE WHAT IT READS IS OF BULK AT MOST 1048576: true; the input reads as it did. -/
def sealBackUptoRow : OpenClaim := { program := "ytecfagifkpgedaa", sum := "6445488e2f4b61b575cd85cbe91104ed97057c52c53486b936d74db0fa0c0845", func := "ballast/ballastlaw02.SealBack", spec := "sealBack", inPlace := ["internal/abi.NoEscape", "internal/bytealg.MakeNoZero"], apart := false, narrowed := true }
def SealBackUptoSaid : Prop := sealBackUptoRow.holds Try.pinned (OpenSpec.upto sealBackSpec)

/-- 'ballastlaw02.SealSpoilt', WHERE WHAT IT READS IS OF BULK AT MOST 1048576: true; the input reads as it did. -/
def sealSpoiltUptoRow : OpenClaim := { program := "ytecfagifkpgedaa", sum := "6445488e2f4b61b575cd85cbe91104ed97057c52c53486b936d74db0fa0c0845", func := "ballast/ballastlaw02.SealSpoilt", spec := "sealSpoilt", inPlace := ["internal/abi.NoEscape", "internal/bytealg.MakeNoZero"], apart := false, narrowed := true }
def SealSpoiltUptoSaid : Prop := sealSpoiltUptoRow.holds Try.pinned (OpenSpec.upto sealSpoiltSpec)

/-- 'ballastlaw02.SealRows', WHERE WHAT IT READS IS OF BULK AT MOST 1048576: true; the input reads as it did. -/
def sealRowsUptoRow : OpenClaim := { program := "ytecfagifkpgedaa", sum := "6445488e2f4b61b575cd85cbe91104ed97057c52c53486b936d74db0fa0c0845", func := "ballast/ballastlaw02.SealRows", spec := "sealRows", inPlace := ["internal/abi.NoEscape", "internal/bytealg.MakeNoZero"], apart := false, narrowed := true }
def SealRowsUptoSaid : Prop := sealRowsUptoRow.holds Try.pinned (OpenSpec.upto sealRowsSpec)

/-- 'ballastlaw02.SealCut', WHERE WHAT IT READS IS OF BULK AT MOST 1048576: true; the input reads as it did. -/
def sealCutUptoRow : OpenClaim := { program := "ytecfagifkpgedaa", sum := "6445488e2f4b61b575cd85cbe91104ed97057c52c53486b936d74db0fa0c0845", func := "ballast/ballastlaw02.SealCut", spec := "sealCut", inPlace := ["internal/abi.NoEscape", "internal/bytealg.MakeNoZero"], apart := false, narrowed := true }
def SealCutUptoSaid : Prop := sealCutUptoRow.holds Try.pinned (OpenSpec.upto sealCutSpec)

/-- 'ballastlaw02.SealParts', WHERE WHAT IT READS IS OF BULK AT MOST 1048576: true; the input reads as it did. -/
def sealPartsUptoRow : OpenClaim := { program := "ytecfagifkpgedaa", sum := "6445488e2f4b61b575cd85cbe91104ed97057c52c53486b936d74db0fa0c0845", func := "ballast/ballastlaw02.SealParts", spec := "sealParts", inPlace := ["internal/abi.NoEscape", "internal/bytealg.MakeNoZero"], apart := false, narrowed := true }
def SealPartsUptoSaid : Prop := sealPartsUptoRow.holds Try.pinned (OpenSpec.upto sealPartsSpec)

/-- 'ballastlaw02.SealLinear', WHERE WHAT IT READS IS OF BULK AT MOST 1048576: true; the input reads as it did. -/
def sealLinearUptoRow : OpenClaim := { program := "ytecfagifkpgedaa", sum := "6445488e2f4b61b575cd85cbe91104ed97057c52c53486b936d74db0fa0c0845", func := "ballast/ballastlaw02.SealLinear", spec := "sealLinear", inPlace := ["internal/abi.NoEscape", "internal/bytealg.MakeNoZero"], apart := false, narrowed := true }
def SealLinearUptoSaid : Prop := sealLinearUptoRow.holds Try.pinned (OpenSpec.upto sealLinearSpec)

end Rows
end Go.Proofs.Ytecfagifkpgedaa
