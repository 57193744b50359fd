/-
  No cell of these rows narrows 'for every input' (looked for: loops, veiled, ifaces, maps, wideKeys, modest, calm, conditions, laid).
  DERIVED. THE GIVEN ROWS OF THIS SEAT. 6 by the template 'for every input the law returns true; each argument reads behind the call as it read before'; 0 by the template 'total and deterministic' (their statements: YtifdmlgmennmcaaTotals.lean).
  GIVEN WITH THE SEED: the statements are not yours to turn. If you find one false, say at which input.
  Laid BY PROGRAM, IN A SANDBOX (cutbox-rows.mjs): the forced cells as the released guide's own fill.sh prints them over the translation 1c3b15666d9dbc20… (all of the seat's roots in one cut). By AI agents, Wed Nov 11 2026. No macro, syntax, notation, axiom, sorry.
-/
import Derived.Test.YtifdmlgmennmcaaChecked
import GoSem.Claim
import GoSem.ClaimJoined
import GoSem.ClaimMapViews
import Derived.JoinedTies
import Derived.KernelRfl
namespace Go.Proofs.Ytifdmlgmennmcaa
/- THE CELL 'sum', in the pinned program and in every row, IS THE sha256 OF THE DUMP (.gsa) THAT YtifdmlgmennmcaaProg.lean LOADS. Nothing in Lean hashes anything: it is a label: what it is worth is what the hold of that sum in a sandbox is worth. -/
noncomputable def Try.pinned : Pinned := { name := "ytifdmlgmennmcaa", sum := "1c3b15666d9dbc20745f5f098aff386b93ef9295c4e45c75003fe708279e22f7", checked := Try.checked }
namespace Rows
def none {H : Type} : Left H := { results := [], args := [] }

/-- 'ballastlaw03.SeqExact': WHATEVER THE INPUT: true; the input reads as it did. -/
def seqExactSpec : ChangeSpec := { name := "seqExact", fn := fun _ => fun
  | [d1, d2, d3] => { results := [.lit (.bool true)], args := [d1, d2, d3] }
  | _ => none }
def seqExactRow : OpenClaim := { program := "ytifdmlgmennmcaa", sum := "1c3b15666d9dbc20745f5f098aff386b93ef9295c4e45c75003fe708279e22f7", func := "ballast/ballastlaw03.SeqExact", spec := "seqExact", apart := false }
def SeqExactSaid : Prop := seqExactRow.holds Try.pinned (OpenSpec.ofChange seqExactSpec)

/-- ITS FALSE NEIGHBOUR: 'it returns false'. Refute it at one input. -/
def seqExactWrong : ChangeSpec := { name := "seqExact", fn := fun _ => fun
  | [d1, d2, d3] => { results := [.lit (.bool false)], args := [d1, d2, d3] }
  | _ => none }
def SeqExactWrongFalsely : Prop := seqExactRow.holds Try.pinned (OpenSpec.ofChange seqExactWrong)

/-- 'ballastlaw03.SeqOrder': WHATEVER THE INPUT: true; the input reads as it did. -/
def seqOrderSpec : ChangeSpec := { name := "seqOrder", fn := fun _ => fun
  | [d1, d2, d3] => { results := [.lit (.bool true)], args := [d1, d2, d3] }
  | _ => none }
def seqOrderRow : OpenClaim := { program := "ytifdmlgmennmcaa", sum := "1c3b15666d9dbc20745f5f098aff386b93ef9295c4e45c75003fe708279e22f7", func := "ballast/ballastlaw03.SeqOrder", spec := "seqOrder", apart := false }
def SeqOrderSaid : Prop := seqOrderRow.holds Try.pinned (OpenSpec.ofChange seqOrderSpec)

/-- ITS FALSE NEIGHBOUR: 'it returns false'. Refute it at one input. -/
def seqOrderWrong : ChangeSpec := { name := "seqOrder", fn := fun _ => fun
  | [d1, d2, d3] => { results := [.lit (.bool false)], args := [d1, d2, d3] }
  | _ => none }
def SeqOrderWrongFalsely : Prop := seqOrderRow.holds Try.pinned (OpenSpec.ofChange seqOrderWrong)

/-- 'ballastlaw03.SeqRows': WHATEVER THE INPUT: true; the input reads as it did. -/
def seqRowsSpec : ChangeSpec := { name := "seqRows", fn := fun _ => fun
  | [d1, d2] => { results := [.lit (.bool true)], args := [d1, d2] }
  | _ => none }
def seqRowsRow : OpenClaim := { program := "ytifdmlgmennmcaa", sum := "1c3b15666d9dbc20745f5f098aff386b93ef9295c4e45c75003fe708279e22f7", func := "ballast/ballastlaw03.SeqRows", spec := "seqRows", apart := false }
def SeqRowsSaid : Prop := seqRowsRow.holds Try.pinned (OpenSpec.ofChange seqRowsSpec)

/-- ITS FALSE NEIGHBOUR: 'it returns false'. Refute it at one input. -/
def seqRowsWrong : ChangeSpec := { name := "seqRows", fn := fun _ => fun
  | [d1, d2] => { results := [.lit (.bool false)], args := [d1, d2] }
  | _ => none }
def SeqRowsWrongFalsely : Prop := seqRowsRow.holds Try.pinned (OpenSpec.ofChange seqRowsWrong)

/-- 'ballastlaw03.SeqRound': WHATEVER THE INPUT: true; the input reads as it did. -/
def seqRoundSpec : ChangeSpec := { name := "seqRound", fn := fun _ => fun
  | [d] => { results := [.lit (.bool true)], args := [d] }
  | _ => none }
def seqRoundRow : OpenClaim := { program := "ytifdmlgmennmcaa", sum := "1c3b15666d9dbc20745f5f098aff386b93ef9295c4e45c75003fe708279e22f7", func := "ballast/ballastlaw03.SeqRound", spec := "seqRound", apart := false }
def SeqRoundSaid : Prop := seqRoundRow.holds Try.pinned (OpenSpec.ofChange seqRoundSpec)

/-- ITS FALSE NEIGHBOUR: 'it returns false'. Refute it at one input. -/
def seqRoundWrong : ChangeSpec := { name := "seqRound", fn := fun _ => fun
  | [d] => { results := [.lit (.bool false)], args := [d] }
  | _ => none }
def SeqRoundWrongFalsely : Prop := seqRoundRow.holds Try.pinned (OpenSpec.ofChange seqRoundWrong)

/-- 'ballastlaw03.SeqGaps': WHATEVER THE INPUT: true; the input reads as it did. -/
def seqGapsSpec : ChangeSpec := { name := "seqGaps", fn := fun _ => fun
  | [d1, d2] => { results := [.lit (.bool true)], args := [d1, d2] }
  | _ => none }
def seqGapsRow : OpenClaim := { program := "ytifdmlgmennmcaa", sum := "1c3b15666d9dbc20745f5f098aff386b93ef9295c4e45c75003fe708279e22f7", func := "ballast/ballastlaw03.SeqGaps", spec := "seqGaps", apart := false }
def SeqGapsSaid : Prop := seqGapsRow.holds Try.pinned (OpenSpec.ofChange seqGapsSpec)

/-- ITS FALSE NEIGHBOUR: 'it returns false'. Refute it at one input. -/
def seqGapsWrong : ChangeSpec := { name := "seqGaps", fn := fun _ => fun
  | [d1, d2] => { results := [.lit (.bool false)], args := [d1, d2] }
  | _ => none }
def SeqGapsWrongFalsely : Prop := seqGapsRow.holds Try.pinned (OpenSpec.ofChange seqGapsWrong)

/-- 'ballastlaw03.SeqSums': WHATEVER THE INPUT: true; the input reads as it did. -/
def seqSumsSpec : ChangeSpec := { name := "seqSums", fn := fun _ => fun
  | [d1, d2] => { results := [.lit (.bool true)], args := [d1, d2] }
  | _ => none }
def seqSumsRow : OpenClaim := { program := "ytifdmlgmennmcaa", sum := "1c3b15666d9dbc20745f5f098aff386b93ef9295c4e45c75003fe708279e22f7", func := "ballast/ballastlaw03.SeqSums", spec := "seqSums", apart := false }
def SeqSumsSaid : Prop := seqSumsRow.holds Try.pinned (OpenSpec.ofChange seqSumsSpec)

/-- ITS FALSE NEIGHBOUR: 'it returns false'. Refute it at one input. -/
def seqSumsWrong : ChangeSpec := { name := "seqSums", fn := fun _ => fun
  | [d1, d2] => { results := [.lit (.bool false)], args := [d1, d2] }
  | _ => none }
def SeqSumsWrongFalsely : Prop := seqSumsRow.holds Try.pinned (OpenSpec.ofChange seqSumsWrong)

/- THE SECOND FORM. 'bulk': how many values and letters a reading holds, each counted each time it is reached (what is shared counts as often as it is met; a slice's spare places count too). A statement '..UptoSaid' is the law's where the arguments, and the package variables that the reading takes, are together of bulk at most 1048576: NARROWER than '..Said'. Prove '..Said' where nothing that the law and all that it calls make is longer than what came in: it says more and counts as full. Else prove '..UptoSaid'. A law counts once. -/
mutual
def uptoBulk {H : Type} : DataW H → Nat
  | .lit (.string bytes) => bytes.length + 1
  | .lit _ => 1
  | .nil => 1
  | .ptr d => uptoBulk d + 1
  | .slice elems spare => uptoBulkAll elems + uptoBulkAll spare + 1
  | .agg parts => uptoBulkAll parts + 1
  | .iface _ d => uptoBulk d + 1
  | .map entries => uptoBulkEntries entries + 1
  | .held _ => 1
def uptoBulkAll {H : Type} : List (DataW H) → Nat
  | [] => 0
  | d :: r => uptoBulk d + uptoBulkAll r
def uptoBulkEntries {H : Type} : List (Lit × DataW H) → Nat
  | [] => 0
  | x :: r => uptoBulkEntry x + uptoBulkEntries r
def uptoBulkEntry {H : Type} : Lit × DataW H → Nat
  | (.string bytes, d) => bytes.length + uptoBulk d + 1
  | (_, d) => uptoBulk d + 1
 end
def uptoSmall : (H : Type) → List (DataW H) → Bool := fun _ ds => decide (uptoBulkAll ds ≤ 1048576)
def OpenSpec.upto (s : _root_.Go.ChangeSpec) : _root_.Go.OpenSpec := { _root_.Go.OpenSpec.ofChange s with cond := some uptoSmall }

/-- 'ballastlaw03.SeqExact', WHERE WHAT IT READS IS OF BULK AT MOST 1048576: true; the input reads as it did. -/
def seqExactUptoRow : OpenClaim := { program := "ytifdmlgmennmcaa", sum := "1c3b15666d9dbc20745f5f098aff386b93ef9295c4e45c75003fe708279e22f7", func := "ballast/ballastlaw03.SeqExact", spec := "seqExact", apart := false, narrowed := true }
def SeqExactUptoSaid : Prop := seqExactUptoRow.holds Try.pinned (OpenSpec.upto seqExactSpec)

/-- 'ballastlaw03.SeqOrder', WHERE WHAT IT READS IS OF BULK AT MOST 1048576: true; the input reads as it did. -/
def seqOrderUptoRow : OpenClaim := { program := "ytifdmlgmennmcaa", sum := "1c3b15666d9dbc20745f5f098aff386b93ef9295c4e45c75003fe708279e22f7", func := "ballast/ballastlaw03.SeqOrder", spec := "seqOrder", apart := false, narrowed := true }
def SeqOrderUptoSaid : Prop := seqOrderUptoRow.holds Try.pinned (OpenSpec.upto seqOrderSpec)

/-- 'ballastlaw03.SeqRows', WHERE WHAT IT READS IS OF BULK AT MOST 1048576: true; the input reads as it did. -/
def seqRowsUptoRow : OpenClaim := { program := "ytifdmlgmennmcaa", sum := "1c3b15666d9dbc20745f5f098aff386b93ef9295c4e45c75003fe708279e22f7", func := "ballast/ballastlaw03.SeqRows", spec := "seqRows", apart := false, narrowed := true }
def SeqRowsUptoSaid : Prop := seqRowsUptoRow.holds Try.pinned (OpenSpec.upto seqRowsSpec)

/-- 'ballastlaw03.SeqRound', WHERE WHAT IT READS IS OF BULK AT MOST 1048576: true; the input reads as it did. -/
def seqRoundUptoRow : OpenClaim := { program := "ytifdmlgmennmcaa", sum := "1c3b15666d9dbc20745f5f098aff386b93ef9295c4e45c75003fe708279e22f7", func := "ballast/ballastlaw03.SeqRound", spec := "seqRound", apart := false, narrowed := true }
def SeqRoundUptoSaid : Prop := seqRoundUptoRow.holds Try.pinned (OpenSpec.upto seqRoundSpec)

/-- 'ballastlaw03.SeqGaps', WHERE WHAT IT READS IS OF BULK AT MOST 1048576: true; the input reads as it did. -/
def seqGapsUptoRow : OpenClaim := { program := "ytifdmlgmennmcaa", sum := "1c3b15666d9dbc20745f5f098aff386b93ef9295c4e45c75003fe708279e22f7", func := "ballast/ballastlaw03.SeqGaps", spec := "seqGaps", apart := false, narrowed := true }
def SeqGapsUptoSaid : Prop := seqGapsUptoRow.holds Try.pinned (OpenSpec.upto seqGapsSpec)

/-- 'ballastlaw03.SeqSums', WHERE WHAT IT READS IS OF BULK AT MOST 1048576: true; the input reads as it did. -/
def seqSumsUptoRow : OpenClaim := { program := "ytifdmlgmennmcaa", sum := "1c3b15666d9dbc20745f5f098aff386b93ef9295c4e45c75003fe708279e22f7", func := "ballast/ballastlaw03.SeqSums", spec := "seqSums", apart := false, narrowed := true }
def SeqSumsUptoSaid : Prop := seqSumsUptoRow.holds Try.pinned (OpenSpec.upto seqSumsSpec)

end Rows
end Go.Proofs.Ytifdmlgmennmcaa
