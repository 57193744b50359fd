/-
  No cell of these rows narrows 'for every input' (looked for: loops, veiled, ifaces, maps, wideKeys, modest, calm, conditions, laid).
  DERIVED. THE GIVEN ROWS OF THIS SEAT. 6 by the template 'for every input the law returns true; each argument reads behind the call as it read before'; 0 by the template 'total and deterministic' (their statements: YtknclcjmfgdphaaTotals.lean).
  GIVEN WITH THE SEED: the statements are not yours to turn. If you find one false, say at which input.
  Laid BY PROGRAM, IN A SANDBOX (cutbox-rows.mjs): the forced cells as the released guide's own fill.sh prints them over the translation 420bdda7ed38051f… (all of the seat's roots in one cut). By AI agents, Wed Nov 11 2026. No macro, syntax, notation, axiom, sorry.
-/
import Derived.Test.YtknclcjmfgdphaaChecked
import GoSem.Claim
import GoSem.ClaimJoined
import GoSem.ClaimMapViews
import Derived.JoinedTies
import Derived.KernelRfl
namespace Go.Proofs.Ytknclcjmfgdphaa
/- THE CELL 'sum', in the pinned program and in every row, IS THE sha256 OF THE DUMP (.gsa) THAT YtknclcjmfgdphaaProg.lean LOADS. Nothing in Lean hashes anything: it is a label: what it is worth is what the hold of that sum in a sandbox is worth. -/
noncomputable def Try.pinned : Pinned := { name := "ytknclcjmfgdphaa", sum := "420bdda7ed38051f35f598bb14da656ec6b825cad39a44fdce0fcddf251605d6", checked := Try.checked }
namespace Rows
def none {H : Type} : Left H := { results := [], args := [] }

/-- 'ballastlaw08.JournalRows': WHATEVER THE INPUT: true; the input reads as it did. -/
def journalRowsSpec : ChangeSpec := { name := "journalRows", fn := fun _ => fun
  | [d] => { results := [.lit (.bool true)], args := [d] }
  | _ => none }
def journalRowsRow : OpenClaim := { program := "ytknclcjmfgdphaa", sum := "420bdda7ed38051f35f598bb14da656ec6b825cad39a44fdce0fcddf251605d6", func := "ballast/ballastlaw08.JournalRows", spec := "journalRows", inPlace := ["internal/abi.NoEscape", "internal/bytealg.MakeNoZero"], unfollowed := true, recurses := true, apart := false }
def JournalRowsSaid : Prop := journalRowsRow.holds Try.pinned (OpenSpec.ofChange journalRowsSpec)

/-- ITS FALSE NEIGHBOUR: 'it returns false'. Refute it at one input. -/
def journalRowsWrong : ChangeSpec := { name := "journalRows", fn := fun _ => fun
  | [d] => { results := [.lit (.bool false)], args := [d] }
  | _ => none }
def JournalRowsWrongFalsely : Prop := journalRowsRow.holds Try.pinned (OpenSpec.ofChange journalRowsWrong)

/-- 'ballastlaw08.JournalSafest': WHATEVER THE INPUT: true; the input reads as it did. -/
def journalSafestSpec : ChangeSpec := { name := "journalSafest", fn := fun _ => fun
  | [d1, d2, d3] => { results := [.lit (.bool true)], args := [d1, d2, d3] }
  | _ => none }
def journalSafestRow : OpenClaim := { program := "ytknclcjmfgdphaa", sum := "420bdda7ed38051f35f598bb14da656ec6b825cad39a44fdce0fcddf251605d6", func := "ballast/ballastlaw08.JournalSafest", spec := "journalSafest", inPlace := ["internal/abi.NoEscape", "internal/bytealg.MakeNoZero"], unfollowed := true, recurses := true, apart := false }
def JournalSafestSaid : Prop := journalSafestRow.holds Try.pinned (OpenSpec.ofChange journalSafestSpec)

/-- ITS FALSE NEIGHBOUR: 'it returns false'. Refute it at one input. -/
def journalSafestWrong : ChangeSpec := { name := "journalSafest", fn := fun _ => fun
  | [d1, d2, d3] => { results := [.lit (.bool false)], args := [d1, d2, d3] }
  | _ => none }
def JournalSafestWrongFalsely : Prop := journalSafestRow.holds Try.pinned (OpenSpec.ofChange journalSafestWrong)

/-- 'ballastlaw08.JournalLasts': WHATEVER THE INPUT: true; the input reads as it did. -/
def journalLastsSpec : ChangeSpec := { name := "journalLasts", fn := fun _ => fun
  | [d] => { results := [.lit (.bool true)], args := [d] }
  | _ => none }
def journalLastsRow : OpenClaim := { program := "ytknclcjmfgdphaa", sum := "420bdda7ed38051f35f598bb14da656ec6b825cad39a44fdce0fcddf251605d6", func := "ballast/ballastlaw08.JournalLasts", spec := "journalLasts", inPlace := ["internal/abi.NoEscape", "internal/bytealg.MakeNoZero"], unfollowed := true, recurses := true, apart := false }
def JournalLastsSaid : Prop := journalLastsRow.holds Try.pinned (OpenSpec.ofChange journalLastsSpec)

/-- ITS FALSE NEIGHBOUR: 'it returns false'. Refute it at one input. -/
def journalLastsWrong : ChangeSpec := { name := "journalLasts", fn := fun _ => fun
  | [d] => { results := [.lit (.bool false)], args := [d] }
  | _ => none }
def JournalLastsWrongFalsely : Prop := journalLastsRow.holds Try.pinned (OpenSpec.ofChange journalLastsWrong)

/-- 'ballastlaw08.JournalEnds': WHATEVER THE INPUT: true; the input reads as it did. -/
def journalEndsSpec : ChangeSpec := { name := "journalEnds", fn := fun _ => fun
  | [d1, d2, d3] => { results := [.lit (.bool true)], args := [d1, d2, d3] }
  | _ => none }
def journalEndsRow : OpenClaim := { program := "ytknclcjmfgdphaa", sum := "420bdda7ed38051f35f598bb14da656ec6b825cad39a44fdce0fcddf251605d6", func := "ballast/ballastlaw08.JournalEnds", spec := "journalEnds", inPlace := ["internal/abi.NoEscape", "internal/bytealg.MakeNoZero"], unfollowed := true, recurses := true, apart := false }
def JournalEndsSaid : Prop := journalEndsRow.holds Try.pinned (OpenSpec.ofChange journalEndsSpec)

/-- ITS FALSE NEIGHBOUR: 'it returns false'. Refute it at one input. -/
def journalEndsWrong : ChangeSpec := { name := "journalEnds", fn := fun _ => fun
  | [d1, d2, d3] => { results := [.lit (.bool false)], args := [d1, d2, d3] }
  | _ => none }
def JournalEndsWrongFalsely : Prop := journalEndsRow.holds Try.pinned (OpenSpec.ofChange journalEndsWrong)

/-- 'ballastlaw08.JournalQuiet': WHATEVER THE INPUT: true; the input reads as it did. -/
def journalQuietSpec : ChangeSpec := { name := "journalQuiet", fn := fun _ => fun
  | [d1, d2, d3] => { results := [.lit (.bool true)], args := [d1, d2, d3] }
  | _ => none }
def journalQuietRow : OpenClaim := { program := "ytknclcjmfgdphaa", sum := "420bdda7ed38051f35f598bb14da656ec6b825cad39a44fdce0fcddf251605d6", func := "ballast/ballastlaw08.JournalQuiet", spec := "journalQuiet", inPlace := ["internal/abi.NoEscape", "internal/bytealg.MakeNoZero"], unfollowed := true, recurses := true, apart := false }
def JournalQuietSaid : Prop := journalQuietRow.holds Try.pinned (OpenSpec.ofChange journalQuietSpec)

/-- ITS FALSE NEIGHBOUR: 'it returns false'. Refute it at one input. -/
def journalQuietWrong : ChangeSpec := { name := "journalQuiet", fn := fun _ => fun
  | [d1, d2, d3] => { results := [.lit (.bool false)], args := [d1, d2, d3] }
  | _ => none }
def JournalQuietWrongFalsely : Prop := journalQuietRow.holds Try.pinned (OpenSpec.ofChange journalQuietWrong)

/-- 'ballastlaw08.JournalOpens': WHATEVER THE INPUT: true; the input reads as it did. -/
def journalOpensSpec : ChangeSpec := { name := "journalOpens", fn := fun _ => fun
  | [d1, d2, d3] => { results := [.lit (.bool true)], args := [d1, d2, d3] }
  | _ => none }
def journalOpensRow : OpenClaim := { program := "ytknclcjmfgdphaa", sum := "420bdda7ed38051f35f598bb14da656ec6b825cad39a44fdce0fcddf251605d6", func := "ballast/ballastlaw08.JournalOpens", spec := "journalOpens", inPlace := ["internal/abi.NoEscape", "internal/bytealg.MakeNoZero"], unfollowed := true, recurses := true, apart := false }
def JournalOpensSaid : Prop := journalOpensRow.holds Try.pinned (OpenSpec.ofChange journalOpensSpec)

/-- ITS FALSE NEIGHBOUR: 'it returns false'. Refute it at one input. -/
def journalOpensWrong : ChangeSpec := { name := "journalOpens", fn := fun _ => fun
  | [d1, d2, d3] => { results := [.lit (.bool false)], args := [d1, d2, d3] }
  | _ => none }
def JournalOpensWrongFalsely : Prop := journalOpensRow.holds Try.pinned (OpenSpec.ofChange journalOpensWrong)

/- THE SECOND FORM. 'bulk': how many values and letters a reading holds, each counted each time it is reached (what is shared counts as often as it is met; a slice's spare places count too). A statement '..UptoSaid' is the law's where the arguments, and the package variables that the reading takes, are together of bulk at most 1048576: NARROWER than '..Said'. Prove '..Said' where nothing that the law and all that it calls make is longer than what came in: it says more and counts as full. Else prove '..UptoSaid'. A law counts once. -/
mutual
def uptoBulk {H : Type} : DataW H → Nat
  | .lit (.string bytes) => bytes.length + 1
  | .lit _ => 1
  | .nil => 1
  | .ptr d => uptoBulk d + 1
  | .slice elems spare => uptoBulkAll elems + uptoBulkAll spare + 1
  | .agg parts => uptoBulkAll parts + 1
  | .iface _ d => uptoBulk d + 1
  | .map entries => uptoBulkEntries entries + 1
  | .held _ => 1
def uptoBulkAll {H : Type} : List (DataW H) → Nat
  | [] => 0
  | d :: r => uptoBulk d + uptoBulkAll r
def uptoBulkEntries {H : Type} : List (Lit × DataW H) → Nat
  | [] => 0
  | x :: r => uptoBulkEntry x + uptoBulkEntries r
def uptoBulkEntry {H : Type} : Lit × DataW H → Nat
  | (.string bytes, d) => bytes.length + uptoBulk d + 1
  | (_, d) => uptoBulk d + 1
 end
def uptoSmall : (H : Type) → List (DataW H) → Bool := fun _ ds => decide (uptoBulkAll ds ≤ 1048576)
def OpenSpec.upto (s : _root_.Go.ChangeSpec) : _root_.Go.OpenSpec := { _root_.Go.OpenSpec.ofChange s with cond := some uptoSmall }

/-- 'ballastlaw08.JournalRows', WHERE WHAT IT READS IS OF BULK AT MOST 1048576: true; the input reads as it did. -/
def journalRowsUptoRow : OpenClaim := { program := "ytknclcjmfgdphaa", sum := "420bdda7ed38051f35f598bb14da656ec6b825cad39a44fdce0fcddf251605d6", func := "ballast/ballastlaw08.JournalRows", spec := "journalRows", inPlace := ["internal/abi.NoEscape", "internal/bytealg.MakeNoZero"], unfollowed := true, recurses := true, apart := false, narrowed := true }
def JournalRowsUptoSaid : Prop := journalRowsUptoRow.holds Try.pinned (OpenSpec.upto journalRowsSpec)

/-- 'ballastlaw08.JournalSafest', WHERE WHAT IT READS IS OF BULK AT MOST 1048576: true; the input reads as it did. -/
def journalSafestUptoRow : OpenClaim := { program := "ytknclcjmfgdphaa", sum := "420bdda7ed38051f35f598bb14da656ec6b825cad39a44fdce0fcddf251605d6", func := "ballast/ballastlaw08.JournalSafest", spec := "journalSafest", inPlace := ["internal/abi.NoEscape", "internal/bytealg.MakeNoZero"], unfollowed := true, recurses := true, apart := false, narrowed := true }
def JournalSafestUptoSaid : Prop := journalSafestUptoRow.holds Try.pinned (OpenSpec.upto journalSafestSpec)

/-- 'ballastlaw08.JournalLasts', WHERE WHAT IT READS IS OF BULK AT MOST 1048576: true; the input reads as it did. -/
def journalLastsUptoRow : OpenClaim := { program := "ytknclcjmfgdphaa", sum := "420bdda7ed38051f35f598bb14da656ec6b825cad39a44fdce0fcddf251605d6", func := "ballast/ballastlaw08.JournalLasts", spec := "journalLasts", inPlace := ["internal/abi.NoEscape", "internal/bytealg.MakeNoZero"], unfollowed := true, recurses := true, apart := false, narrowed := true }
def JournalLastsUptoSaid : Prop := journalLastsUptoRow.holds Try.pinned (OpenSpec.upto journalLastsSpec)

/-- 'ballastlaw08.JournalEnds', WHERE WHAT IT READS IS OF BULK AT MOST 1048576: true; the input reads as it did. -/
def journalEndsUptoRow : OpenClaim := { program := "ytknclcjmfgdphaa", sum := "420bdda7ed38051f35f598bb14da656ec6b825cad39a44fdce0fcddf251605d6", func := "ballast/ballastlaw08.JournalEnds", spec := "journalEnds", inPlace := ["internal/abi.NoEscape", "internal/bytealg.MakeNoZero"], unfollowed := true, recurses := true, apart := false, narrowed := true }
def JournalEndsUptoSaid : Prop := journalEndsUptoRow.holds Try.pinned (OpenSpec.upto journalEndsSpec)

/-- 'ballastlaw08.JournalQuiet', WHERE WHAT IT READS IS OF BULK AT MOST 1048576: true; the input reads as it did. -/
def journalQuietUptoRow : OpenClaim := { program := "ytknclcjmfgdphaa", sum := "420bdda7ed38051f35f598bb14da656ec6b825cad39a44fdce0fcddf251605d6", func := "ballast/ballastlaw08.JournalQuiet", spec := "journalQuiet", inPlace := ["internal/abi.NoEscape", "internal/bytealg.MakeNoZero"], unfollowed := true, recurses := true, apart := false, narrowed := true }
def JournalQuietUptoSaid : Prop := journalQuietUptoRow.holds Try.pinned (OpenSpec.upto journalQuietSpec)

/-- 'ballastlaw08.JournalOpens', WHERE WHAT IT READS IS OF BULK AT MOST 1048576: true; the input reads as it did. -/
def journalOpensUptoRow : OpenClaim := { program := "ytknclcjmfgdphaa", sum := "420bdda7ed38051f35f598bb14da656ec6b825cad39a44fdce0fcddf251605d6", func := "ballast/ballastlaw08.JournalOpens", spec := "journalOpens", inPlace := ["internal/abi.NoEscape", "internal/bytealg.MakeNoZero"], unfollowed := true, recurses := true, apart := false, narrowed := true }
def JournalOpensUptoSaid : Prop := journalOpensUptoRow.holds Try.pinned (OpenSpec.upto journalOpensSpec)

end Rows
end Go.Proofs.Ytknclcjmfgdphaa
