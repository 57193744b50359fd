/-
  No cell of these rows narrows 'for every input' (looked for: loops, veiled, ifaces, maps, wideKeys, modest, calm, conditions, laid).
  DERIVED. THE GIVEN ROWS OF THIS SEAT. 7 by the template 'for every input the law returns true; each argument reads behind the call as it read before'; 0 by the template 'total and deterministic' (their statements: YtcpodeodgpjbiaaTotals.lean).
  GIVEN WITH THE SEED: the statements are not yours to turn. If you find one false, say at which input.
  Laid BY PROGRAM, IN A SANDBOX (cutbox-rows.mjs): the forced cells as the released guide's own fill.sh prints them over the translation 1d85a9d53705f233… (all of the seat's roots in one cut). By AI agents, Wed Nov 11 2026. No macro, syntax, notation, axiom, sorry.
-/
import Derived.Test.YtcpodeodgpjbiaaChecked
import GoSem.Claim
import GoSem.ClaimJoined
import GoSem.ClaimMapViews
import Derived.JoinedTies
import Derived.KernelRfl
namespace Go.Proofs.Ytcpodeodgpjbiaa
/- THE CELL 'sum', in the pinned program and in every row, IS THE sha256 OF THE DUMP (.gsa) THAT YtcpodeodgpjbiaaProg.lean LOADS. Nothing in Lean hashes anything: it is a label: what it is worth is what the hold of that sum in a sandbox is worth. -/
noncomputable def Try.pinned : Pinned := { name := "ytcpodeodgpjbiaa", sum := "1d85a9d53705f233fc47076d212c5e9a588bd616b9d87c1daeef74d56026b63b", checked := Try.checked }
namespace Rows
def none {H : Type} : Left H := { results := [], args := [] }

/-- 'ballastlaw01.PackFills': WHATEVER THE INPUT: true; the input reads as it did. -/
def packFillsSpec : ChangeSpec := { name := "packFills", fn := fun _ => fun
  | [d1, d2] => { results := [.lit (.bool true)], args := [d1, d2] }
  | _ => none }
def packFillsRow : OpenClaim := { program := "ytcpodeodgpjbiaa", sum := "1d85a9d53705f233fc47076d212c5e9a588bd616b9d87c1daeef74d56026b63b", func := "ballast/ballastlaw01.PackFills", spec := "packFills", apart := false }
def PackFillsSaid : Prop := packFillsRow.holds Try.pinned (OpenSpec.ofChange packFillsSpec)

/-- ITS FALSE NEIGHBOUR: 'it returns false'. Refute it at one input. -/
def packFillsWrong : ChangeSpec := { name := "packFills", fn := fun _ => fun
  | [d1, d2] => { results := [.lit (.bool false)], args := [d1, d2] }
  | _ => none }
def PackFillsWrongFalsely : Prop := packFillsRow.holds Try.pinned (OpenSpec.ofChange packFillsWrong)

/-- 'ballastlaw01.PackWrites': WHATEVER THE INPUT: true; the input reads as it did. -/
def packWritesSpec : ChangeSpec := { name := "packWrites", fn := fun _ => fun
  | [d1, d2] => { results := [.lit (.bool true)], args := [d1, d2] }
  | _ => none }
def packWritesRow : OpenClaim := { program := "ytcpodeodgpjbiaa", sum := "1d85a9d53705f233fc47076d212c5e9a588bd616b9d87c1daeef74d56026b63b", func := "ballast/ballastlaw01.PackWrites", spec := "packWrites", apart := false }
def PackWritesSaid : Prop := packWritesRow.holds Try.pinned (OpenSpec.ofChange packWritesSpec)

/-- ITS FALSE NEIGHBOUR: 'it returns false'. Refute it at one input. -/
def packWritesWrong : ChangeSpec := { name := "packWrites", fn := fun _ => fun
  | [d1, d2] => { results := [.lit (.bool false)], args := [d1, d2] }
  | _ => none }
def PackWritesWrongFalsely : Prop := packWritesRow.holds Try.pinned (OpenSpec.ofChange packWritesWrong)

/-- 'ballastlaw01.PackLists': WHATEVER THE INPUT: true; the input reads as it did. -/
def packListsSpec : ChangeSpec := { name := "packLists", fn := fun _ => fun
  | [d1, d2] => { results := [.lit (.bool true)], args := [d1, d2] }
  | _ => none }
def packListsRow : OpenClaim := { program := "ytcpodeodgpjbiaa", sum := "1d85a9d53705f233fc47076d212c5e9a588bd616b9d87c1daeef74d56026b63b", func := "ballast/ballastlaw01.PackLists", spec := "packLists", apart := false }
def PackListsSaid : Prop := packListsRow.holds Try.pinned (OpenSpec.ofChange packListsSpec)

/-- ITS FALSE NEIGHBOUR: 'it returns false'. Refute it at one input. -/
def packListsWrong : ChangeSpec := { name := "packLists", fn := fun _ => fun
  | [d1, d2] => { results := [.lit (.bool false)], args := [d1, d2] }
  | _ => none }
def PackListsWrongFalsely : Prop := packListsRow.holds Try.pinned (OpenSpec.ofChange packListsWrong)

/-- 'ballastlaw01.PackWidths': WHATEVER THE INPUT: true; the input reads as it did. -/
def packWidthsSpec : ChangeSpec := { name := "packWidths", fn := fun _ => fun
  | [d1, d2, d3] => { results := [.lit (.bool true)], args := [d1, d2, d3] }
  | _ => none }
def packWidthsRow : OpenClaim := { program := "ytcpodeodgpjbiaa", sum := "1d85a9d53705f233fc47076d212c5e9a588bd616b9d87c1daeef74d56026b63b", func := "ballast/ballastlaw01.PackWidths", spec := "packWidths", apart := false }
def PackWidthsSaid : Prop := packWidthsRow.holds Try.pinned (OpenSpec.ofChange packWidthsSpec)

/-- ITS FALSE NEIGHBOUR: 'it returns false'. Refute it at one input. -/
def packWidthsWrong : ChangeSpec := { name := "packWidths", fn := fun _ => fun
  | [d1, d2, d3] => { results := [.lit (.bool false)], args := [d1, d2, d3] }
  | _ => none }
def PackWidthsWrongFalsely : Prop := packWidthsRow.holds Try.pinned (OpenSpec.ofChange packWidthsWrong)

/-- 'ballastlaw01.PackReads': WHATEVER THE INPUT: true; the input reads as it did. -/
def packReadsSpec : ChangeSpec := { name := "packReads", fn := fun _ => fun
  | [d1, d2] => { results := [.lit (.bool true)], args := [d1, d2] }
  | _ => none }
def packReadsRow : OpenClaim := { program := "ytcpodeodgpjbiaa", sum := "1d85a9d53705f233fc47076d212c5e9a588bd616b9d87c1daeef74d56026b63b", func := "ballast/ballastlaw01.PackReads", spec := "packReads", apart := false }
def PackReadsSaid : Prop := packReadsRow.holds Try.pinned (OpenSpec.ofChange packReadsSpec)

/-- ITS FALSE NEIGHBOUR: 'it returns false'. Refute it at one input. -/
def packReadsWrong : ChangeSpec := { name := "packReads", fn := fun _ => fun
  | [d1, d2] => { results := [.lit (.bool false)], args := [d1, d2] }
  | _ => none }
def PackReadsWrongFalsely : Prop := packReadsRow.holds Try.pinned (OpenSpec.ofChange packReadsWrong)

/-- 'ballastlaw01.PackOnly': WHATEVER THE INPUT: true; the input reads as it did. -/
def packOnlySpec : ChangeSpec := { name := "packOnly", fn := fun _ => fun
  | [d1, d2] => { results := [.lit (.bool true)], args := [d1, d2] }
  | _ => none }
def packOnlyRow : OpenClaim := { program := "ytcpodeodgpjbiaa", sum := "1d85a9d53705f233fc47076d212c5e9a588bd616b9d87c1daeef74d56026b63b", func := "ballast/ballastlaw01.PackOnly", spec := "packOnly", apart := false }
def PackOnlySaid : Prop := packOnlyRow.holds Try.pinned (OpenSpec.ofChange packOnlySpec)

/-- ITS FALSE NEIGHBOUR: 'it returns false'. Refute it at one input. -/
def packOnlyWrong : ChangeSpec := { name := "packOnly", fn := fun _ => fun
  | [d1, d2] => { results := [.lit (.bool false)], args := [d1, d2] }
  | _ => none }
def PackOnlyWrongFalsely : Prop := packOnlyRow.holds Try.pinned (OpenSpec.ofChange packOnlyWrong)

/-- 'ballastlaw01.PackBack': WHATEVER THE INPUT: true; the input reads as it did. -/
def packBackSpec : ChangeSpec := { name := "packBack", fn := fun _ => fun
  | [d1, d2] => { results := [.lit (.bool true)], args := [d1, d2] }
  | _ => none }
def packBackRow : OpenClaim := { program := "ytcpodeodgpjbiaa", sum := "1d85a9d53705f233fc47076d212c5e9a588bd616b9d87c1daeef74d56026b63b", func := "ballast/ballastlaw01.PackBack", spec := "packBack", apart := false }
def PackBackSaid : Prop := packBackRow.holds Try.pinned (OpenSpec.ofChange packBackSpec)

/-- ITS FALSE NEIGHBOUR: 'it returns false'. Refute it at one input. -/
def packBackWrong : ChangeSpec := { name := "packBack", fn := fun _ => fun
  | [d1, d2] => { results := [.lit (.bool false)], args := [d1, d2] }
  | _ => none }
def PackBackWrongFalsely : Prop := packBackRow.holds Try.pinned (OpenSpec.ofChange packBackWrong)

/- THE SECOND FORM. 'bulk': how many values and letters a reading holds, each counted each time it is reached (what is shared counts as often as it is met; a slice's spare places count too). A statement '..UptoSaid' is the law's where the arguments, and the package variables that the reading takes, are together of bulk at most 1048576: NARROWER than '..Said'. Prove '..Said' where nothing that the law and all that it calls make is longer than what came in: it says more and counts as full. Else prove '..UptoSaid'. A law counts once. -/
mutual
def uptoBulk {H : Type} : DataW H → Nat
  | .lit (.string bytes) => bytes.length + 1
  | .lit _ => 1
  | .nil => 1
  | .ptr d => uptoBulk d + 1
  | .slice elems spare => uptoBulkAll elems + uptoBulkAll spare + 1
  | .agg parts => uptoBulkAll parts + 1
  | .iface _ d => uptoBulk d + 1
  | .map entries => uptoBulkEntries entries + 1
  | .held _ => 1
def uptoBulkAll {H : Type} : List (DataW H) → Nat
  | [] => 0
  | d :: r => uptoBulk d + uptoBulkAll r
def uptoBulkEntries {H : Type} : List (Lit × DataW H) → Nat
  | [] => 0
  | x :: r => uptoBulkEntry x + uptoBulkEntries r
def uptoBulkEntry {H : Type} : Lit × DataW H → Nat
  | (.string bytes, d) => bytes.length + uptoBulk d + 1
  | (_, d) => uptoBulk d + 1
 end
def uptoSmall : (H : Type) → List (DataW H) → Bool := fun _ ds => decide (uptoBulkAll ds ≤ 1048576)
def OpenSpec.upto (s : _root_.Go.ChangeSpec) : _root_.Go.OpenSpec := { _root_.Go.OpenSpec.ofChange s with cond := some uptoSmall }

/-- 'ballastlaw01.PackFills', WHERE WHAT IT READS IS OF BULK AT MOST 1048576: true; the input reads as it did. -/
def packFillsUptoRow : OpenClaim := { program := "ytcpodeodgpjbiaa", sum := "1d85a9d53705f233fc47076d212c5e9a588bd616b9d87c1daeef74d56026b63b", func := "ballast/ballastlaw01.PackFills", spec := "packFills", apart := false, narrowed := true }
def PackFillsUptoSaid : Prop := packFillsUptoRow.holds Try.pinned (OpenSpec.upto packFillsSpec)

/-- 'ballastlaw01.PackWrites', WHERE WHAT IT READS IS OF BULK AT MOST 1048576: true; the input reads as it did. -/
def packWritesUptoRow : OpenClaim := { program := "ytcpodeodgpjbiaa", sum := "1d85a9d53705f233fc47076d212c5e9a588bd616b9d87c1daeef74d56026b63b", func := "ballast/ballastlaw01.PackWrites", spec := "packWrites", apart := false, narrowed := true }
def PackWritesUptoSaid : Prop := packWritesUptoRow.holds Try.pinned (OpenSpec.upto packWritesSpec)

/-- 'ballastlaw01.PackLists', WHERE WHAT IT READS IS OF BULK AT MOST 1048576: true; the input reads as it did. -/
def packListsUptoRow : OpenClaim := { program := "ytcpodeodgpjbiaa", sum := "1d85a9d53705f233fc47076d212c5e9a588bd616b9d87c1daeef74d56026b63b", func := "ballast/ballastlaw01.PackLists", spec := "packLists", apart := false, narrowed := true }
def PackListsUptoSaid : Prop := packListsUptoRow.holds Try.pinned (OpenSpec.upto packListsSpec)

/-- 'ballastlaw01.PackWidths', WHERE WHAT IT READS IS OF BULK AT MOST 1048576: true; the input reads as it did. -/
def packWidthsUptoRow : OpenClaim := { program := "ytcpodeodgpjbiaa", sum := "1d85a9d53705f233fc47076d212c5e9a588bd616b9d87c1daeef74d56026b63b", func := "ballast/ballastlaw01.PackWidths", spec := "packWidths", apart := false, narrowed := true }
def PackWidthsUptoSaid : Prop := packWidthsUptoRow.holds Try.pinned (OpenSpec.upto packWidthsSpec)

/-- 'ballastlaw01.PackReads', WHERE WHAT IT READS IS OF BULK AT MOST 1048576: true; the input reads as it did. -/
def packReadsUptoRow : OpenClaim := { program := "ytcpodeodgpjbiaa", sum := "1d85a9d53705f233fc47076d212c5e9a588bd616b9d87c1daeef74d56026b63b", func := "ballast/ballastlaw01.PackReads", spec := "packReads", apart := false, narrowed := true }
def PackReadsUptoSaid : Prop := packReadsUptoRow.holds Try.pinned (OpenSpec.upto packReadsSpec)

/-- 'ballastlaw01.PackOnly', WHERE WHAT IT READS IS OF BULK AT MOST 1048576: true; the input reads as it did. -/
def packOnlyUptoRow : OpenClaim := { program := "ytcpodeodgpjbiaa", sum := "1d85a9d53705f233fc47076d212c5e9a588bd616b9d87c1daeef74d56026b63b", func := "ballast/ballastlaw01.PackOnly", spec := "packOnly", apart := false, narrowed := true }
def PackOnlyUptoSaid : Prop := packOnlyUptoRow.holds Try.pinned (OpenSpec.upto packOnlySpec)

/-- 'ballastlaw01.PackBack', WHERE WHAT IT READS IS OF BULK AT MOST 1048576: true; the input reads as it did. -/
def packBackUptoRow : OpenClaim := { program := "ytcpodeodgpjbiaa", sum := "1d85a9d53705f233fc47076d212c5e9a588bd616b9d87c1daeef74d56026b63b", func := "ballast/ballastlaw01.PackBack", spec := "packBack", apart := false, narrowed := true }
def PackBackUptoSaid : Prop := packBackUptoRow.holds Try.pinned (OpenSpec.upto packBackSpec)

end Rows
end Go.Proofs.Ytcpodeodgpjbiaa
