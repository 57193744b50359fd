/-
  No cell of these rows narrows 'for every input' (looked for: loops, veiled, ifaces, maps, wideKeys, modest, calm, conditions, laid).
  DERIVED. THE GIVEN ROWS OF THIS SEAT. 6 by the template 'for every input the law returns true; each argument reads behind the call as it read before'; 0 by the template 'total and deterministic' (their statements: YtakffjjnogpolaaTotals.lean).
  GIVEN WITH THE SEED: the statements are not yours to turn. If you find one false, say at which input.
  Laid BY PROGRAM, IN A SANDBOX (cutbox-rows.mjs): the forced cells as the released guide's own fill.sh prints them over the translation ea29f45b56f984c0… (all of the seat's roots in one cut). By AI agents, Wed Nov 11 2026. No macro, syntax, notation, axiom, sorry.
-/
import Derived.Test.YtakffjjnogpolaaChecked
import GoSem.Claim
import GoSem.ClaimJoined
import GoSem.ClaimMapViews
import Derived.JoinedTies
import Derived.KernelRfl
namespace Go.Proofs.Ytakffjjnogpolaa
/- THE CELL 'sum', in the pinned program and in every row, IS THE sha256 OF THE DUMP (.gsa) THAT YtakffjjnogpolaaProg.lean LOADS. Nothing in Lean hashes anything: it is a label: what it is worth is what the hold of that sum in a sandbox is worth. -/
noncomputable def Try.pinned : Pinned := { name := "ytakffjjnogpolaa", sum := "ea29f45b56f984c0e503e47b48f64f23d1c540c1ef3ee37ad28dbde9ff320123", checked := Try.checked }
namespace Rows
def none {H : Type} : Left H := { results := [], args := [] }

/-- 'ballastlaw07.CellsOnce': WHATEVER THE INPUT: true; the input reads as it did. -/
def cellsOnceSpec : ChangeSpec := { name := "cellsOnce", fn := fun _ => fun
  | [d1, d2, d3] => { results := [.lit (.bool true)], args := [d1, d2, d3] }
  | _ => none }
def cellsOnceRow : OpenClaim := { program := "ytakffjjnogpolaa", sum := "ea29f45b56f984c0e503e47b48f64f23d1c540c1ef3ee37ad28dbde9ff320123", func := "ballast/ballastlaw07.CellsOnce", spec := "cellsOnce", inPlace := ["internal/abi.NoEscape", "internal/bytealg.MakeNoZero"], apart := false }
def CellsOnceSaid : Prop := cellsOnceRow.holds Try.pinned (OpenSpec.ofChange cellsOnceSpec)

/-- ITS FALSE NEIGHBOUR: 'it returns false'. Refute it at one input. -/
def cellsOnceWrong : ChangeSpec := { name := "cellsOnce", fn := fun _ => fun
  | [d1, d2, d3] => { results := [.lit (.bool false)], args := [d1, d2, d3] }
  | _ => none }
def CellsOnceWrongFalsely : Prop := cellsOnceRow.holds Try.pinned (OpenSpec.ofChange cellsOnceWrong)

/-- 'ballastlaw07.CellsApart': WHATEVER THE INPUT: true; the input reads as it did. -/
def cellsApartSpec : ChangeSpec := { name := "cellsApart", fn := fun _ => fun
  | [d1, d2] => { results := [.lit (.bool true)], args := [d1, d2] }
  | _ => none }
def cellsApartRow : OpenClaim := { program := "ytakffjjnogpolaa", sum := "ea29f45b56f984c0e503e47b48f64f23d1c540c1ef3ee37ad28dbde9ff320123", func := "ballast/ballastlaw07.CellsApart", spec := "cellsApart", inPlace := ["internal/abi.NoEscape", "internal/bytealg.MakeNoZero"], apart := false }
def CellsApartSaid : Prop := cellsApartRow.holds Try.pinned (OpenSpec.ofChange cellsApartSpec)

/-- ITS FALSE NEIGHBOUR: 'it returns false'. Refute it at one input. -/
def cellsApartWrong : ChangeSpec := { name := "cellsApart", fn := fun _ => fun
  | [d1, d2] => { results := [.lit (.bool false)], args := [d1, d2] }
  | _ => none }
def CellsApartWrongFalsely : Prop := cellsApartRow.holds Try.pinned (OpenSpec.ofChange cellsApartWrong)

/-- 'ballastlaw07.CellsPlay': WHATEVER THE INPUT: true; the input reads as it did. -/
def cellsPlaySpec : ChangeSpec := { name := "cellsPlay", fn := fun _ => fun
  | [d] => { results := [.lit (.bool true)], args := [d] }
  | _ => none }
def cellsPlayRow : OpenClaim := { program := "ytakffjjnogpolaa", sum := "ea29f45b56f984c0e503e47b48f64f23d1c540c1ef3ee37ad28dbde9ff320123", func := "ballast/ballastlaw07.CellsPlay", spec := "cellsPlay", inPlace := ["internal/abi.NoEscape", "internal/bytealg.MakeNoZero"], apart := false }
def CellsPlaySaid : Prop := cellsPlayRow.holds Try.pinned (OpenSpec.ofChange cellsPlaySpec)

/-- ITS FALSE NEIGHBOUR: 'it returns false'. Refute it at one input. -/
def cellsPlayWrong : ChangeSpec := { name := "cellsPlay", fn := fun _ => fun
  | [d] => { results := [.lit (.bool false)], args := [d] }
  | _ => none }
def CellsPlayWrongFalsely : Prop := cellsPlayRow.holds Try.pinned (OpenSpec.ofChange cellsPlayWrong)

/-- 'ballastlaw07.CellsKeep': WHATEVER THE INPUT: true; the input reads as it did. -/
def cellsKeepSpec : ChangeSpec := { name := "cellsKeep", fn := fun _ => fun
  | [d1, d2, d3] => { results := [.lit (.bool true)], args := [d1, d2, d3] }
  | _ => none }
def cellsKeepRow : OpenClaim := { program := "ytakffjjnogpolaa", sum := "ea29f45b56f984c0e503e47b48f64f23d1c540c1ef3ee37ad28dbde9ff320123", func := "ballast/ballastlaw07.CellsKeep", spec := "cellsKeep", inPlace := ["internal/abi.NoEscape", "internal/bytealg.MakeNoZero"], apart := false }
def CellsKeepSaid : Prop := cellsKeepRow.holds Try.pinned (OpenSpec.ofChange cellsKeepSpec)

/-- ITS FALSE NEIGHBOUR: 'it returns false'. Refute it at one input. -/
def cellsKeepWrong : ChangeSpec := { name := "cellsKeep", fn := fun _ => fun
  | [d1, d2, d3] => { results := [.lit (.bool false)], args := [d1, d2, d3] }
  | _ => none }
def CellsKeepWrongFalsely : Prop := cellsKeepRow.holds Try.pinned (OpenSpec.ofChange cellsKeepWrong)

/-- 'ballastlaw07.CellsCuts': WHATEVER THE INPUT: true; the input reads as it did. -/
def cellsCutsSpec : ChangeSpec := { name := "cellsCuts", fn := fun _ => fun
  | [d1, d2, d3] => { results := [.lit (.bool true)], args := [d1, d2, d3] }
  | _ => none }
def cellsCutsRow : OpenClaim := { program := "ytakffjjnogpolaa", sum := "ea29f45b56f984c0e503e47b48f64f23d1c540c1ef3ee37ad28dbde9ff320123", func := "ballast/ballastlaw07.CellsCuts", spec := "cellsCuts", inPlace := ["internal/abi.NoEscape", "internal/bytealg.MakeNoZero"], apart := false }
def CellsCutsSaid : Prop := cellsCutsRow.holds Try.pinned (OpenSpec.ofChange cellsCutsSpec)

/-- ITS FALSE NEIGHBOUR: 'it returns false'. Refute it at one input. -/
def cellsCutsWrong : ChangeSpec := { name := "cellsCuts", fn := fun _ => fun
  | [d1, d2, d3] => { results := [.lit (.bool false)], args := [d1, d2, d3] }
  | _ => none }
def CellsCutsWrongFalsely : Prop := cellsCutsRow.holds Try.pinned (OpenSpec.ofChange cellsCutsWrong)

/-- 'ballastlaw07.CellsCount': WHATEVER THE INPUT: true; the input reads as it did. -/
def cellsCountSpec : ChangeSpec := { name := "cellsCount", fn := fun _ => fun
  | [d] => { results := [.lit (.bool true)], args := [d] }
  | _ => none }
def cellsCountRow : OpenClaim := { program := "ytakffjjnogpolaa", sum := "ea29f45b56f984c0e503e47b48f64f23d1c540c1ef3ee37ad28dbde9ff320123", func := "ballast/ballastlaw07.CellsCount", spec := "cellsCount", inPlace := ["internal/abi.NoEscape", "internal/bytealg.MakeNoZero"], apart := false }
def CellsCountSaid : Prop := cellsCountRow.holds Try.pinned (OpenSpec.ofChange cellsCountSpec)

/-- ITS FALSE NEIGHBOUR: 'it returns false'. Refute it at one input. -/
def cellsCountWrong : ChangeSpec := { name := "cellsCount", fn := fun _ => fun
  | [d] => { results := [.lit (.bool false)], args := [d] }
  | _ => none }
def CellsCountWrongFalsely : Prop := cellsCountRow.holds Try.pinned (OpenSpec.ofChange cellsCountWrong)

/- THE SECOND FORM. 'bulk': how many values and letters a reading holds, each counted each time it is reached (what is shared counts as often as it is met; a slice's spare places count too). A statement '..UptoSaid' is the law's where the arguments, and the package variables that the reading takes, are together of bulk at most 1048576: NARROWER than '..Said'. Prove '..Said' where nothing that the law and all that it calls make is longer than what came in: it says more and counts as full. Else prove '..UptoSaid'. A law counts once. -/
mutual
def uptoBulk {H : Type} : DataW H → Nat
  | .lit (.string bytes) => bytes.length + 1
  | .lit _ => 1
  | .nil => 1
  | .ptr d => uptoBulk d + 1
  | .slice elems spare => uptoBulkAll elems + uptoBulkAll spare + 1
  | .agg parts => uptoBulkAll parts + 1
  | .iface _ d => uptoBulk d + 1
  | .map entries => uptoBulkEntries entries + 1
  | .held _ => 1
def uptoBulkAll {H : Type} : List (DataW H) → Nat
  | [] => 0
  | d :: r => uptoBulk d + uptoBulkAll r
def uptoBulkEntries {H : Type} : List (Lit × DataW H) → Nat
  | [] => 0
  | x :: r => uptoBulkEntry x + uptoBulkEntries r
def uptoBulkEntry {H : Type} : Lit × DataW H → Nat
  | (.string bytes, d) => bytes.length + uptoBulk d + 1
  | (_, d) => uptoBulk d + 1
 end
def uptoSmall : (H : Type) → List (DataW H) → Bool := fun _ ds => decide (uptoBulkAll ds ≤ 1048576)
def OpenSpec.upto (s : _root_.Go.ChangeSpec) : _root_.Go.OpenSpec := { _root_.Go.OpenSpec.ofChange s with cond := some uptoSmall }

/-- 'ballastlaw07.CellsOnce', WHERE WHAT IT READS IS OF BULK AT MOST 1048576: true; the input reads as it did. -/
def cellsOnceUptoRow : OpenClaim := { program := "ytakffjjnogpolaa", sum := "ea29f45b56f984c0e503e47b48f64f23d1c540c1ef3ee37ad28dbde9ff320123", func := "ballast/ballastlaw07.CellsOnce", spec := "cellsOnce", inPlace := ["internal/abi.NoEscape", "internal/bytealg.MakeNoZero"], apart := false, narrowed := true }
def CellsOnceUptoSaid : Prop := cellsOnceUptoRow.holds Try.pinned (OpenSpec.upto cellsOnceSpec)

/-- 'ballastlaw07.CellsApart', WHERE WHAT IT READS IS OF BULK AT MOST 1048576: true; the input reads as it did. -/
def cellsApartUptoRow : OpenClaim := { program := "ytakffjjnogpolaa", sum := "ea29f45b56f984c0e503e47b48f64f23d1c540c1ef3ee37ad28dbde9ff320123", func := "ballast/ballastlaw07.CellsApart", spec := "cellsApart", inPlace := ["internal/abi.NoEscape", "internal/bytealg.MakeNoZero"], apart := false, narrowed := true }
def CellsApartUptoSaid : Prop := cellsApartUptoRow.holds Try.pinned (OpenSpec.upto cellsApartSpec)

/-- 'ballastlaw07.CellsPlay', WHERE WHAT IT READS IS OF BULK AT MOST 1048576: true; the input reads as it did. -/
def cellsPlayUptoRow : OpenClaim := { program := "ytakffjjnogpolaa", sum := "ea29f45b56f984c0e503e47b48f64f23d1c540c1ef3ee37ad28dbde9ff320123", func := "ballast/ballastlaw07.CellsPlay", spec := "cellsPlay", inPlace := ["internal/abi.NoEscape", "internal/bytealg.MakeNoZero"], apart := false, narrowed := true }
def CellsPlayUptoSaid : Prop := cellsPlayUptoRow.holds Try.pinned (OpenSpec.upto cellsPlaySpec)

/-- 'ballastlaw07.CellsKeep', WHERE WHAT IT READS IS OF BULK AT MOST 1048576: true; the input reads as it did. -/
def cellsKeepUptoRow : OpenClaim := { program := "ytakffjjnogpolaa", sum := "ea29f45b56f984c0e503e47b48f64f23d1c540c1ef3ee37ad28dbde9ff320123", func := "ballast/ballastlaw07.CellsKeep", spec := "cellsKeep", inPlace := ["internal/abi.NoEscape", "internal/bytealg.MakeNoZero"], apart := false, narrowed := true }
def CellsKeepUptoSaid : Prop := cellsKeepUptoRow.holds Try.pinned (OpenSpec.upto cellsKeepSpec)

/-- 'ballastlaw07.CellsCuts', WHERE WHAT IT READS IS OF BULK AT MOST 1048576: true; the input reads as it did. -/
def cellsCutsUptoRow : OpenClaim := { program := "ytakffjjnogpolaa", sum := "ea29f45b56f984c0e503e47b48f64f23d1c540c1ef3ee37ad28dbde9ff320123", func := "ballast/ballastlaw07.CellsCuts", spec := "cellsCuts", inPlace := ["internal/abi.NoEscape", "internal/bytealg.MakeNoZero"], apart := false, narrowed := true }
def CellsCutsUptoSaid : Prop := cellsCutsUptoRow.holds Try.pinned (OpenSpec.upto cellsCutsSpec)

/-- 'ballastlaw07.CellsCount', WHERE WHAT IT READS IS OF BULK AT MOST 1048576: true; the input reads as it did. -/
def cellsCountUptoRow : OpenClaim := { program := "ytakffjjnogpolaa", sum := "ea29f45b56f984c0e503e47b48f64f23d1c540c1ef3ee37ad28dbde9ff320123", func := "ballast/ballastlaw07.CellsCount", spec := "cellsCount", inPlace := ["internal/abi.NoEscape", "internal/bytealg.MakeNoZero"], apart := false, narrowed := true }
def CellsCountUptoSaid : Prop := cellsCountUptoRow.holds Try.pinned (OpenSpec.upto cellsCountSpec)

end Rows
end Go.Proofs.Ytakffjjnogpolaa
