/-
  No cell of these rows narrows 'for every input' (looked for: loops, veiled, ifaces, maps, wideKeys, modest, calm, conditions, laid).
  DERIVED. THE GIVEN ROWS OF THIS SEAT. 7 by the template 'for every input the law returns true; each argument reads behind the call as it read before'; 0 by the template 'total and deterministic' (their statements: YtgcpoehchohleaaTotals.lean).
  GIVEN WITH THE SEED: the statements are not yours to turn. If you find one false, say at which input.
  Laid BY PROGRAM, IN A SANDBOX (cutbox-rows.mjs): the forced cells as the released guide's own fill.sh prints them over the translation efbc4e947ae882c4… (all of the seat's roots in one cut). By AI agents, Wed Nov 11 2026. No macro, syntax, notation, axiom, sorry.
-/
import Derived.Test.YtgcpoehchohleaaChecked
import GoSem.Claim
import GoSem.ClaimJoined
import GoSem.ClaimMapViews
import Derived.JoinedTies
import Derived.KernelRfl
namespace Go.Proofs.Ytgcpoehchohleaa
/- THE CELL 'sum', in the pinned program and in every row, IS THE sha256 OF THE DUMP (.gsa) THAT YtgcpoehchohleaaProg.lean LOADS. Nothing in Lean hashes anything: it is a label: what it is worth is what the hold of that sum in a sandbox is worth. -/
noncomputable def Try.pinned : Pinned := { name := "ytgcpoehchohleaa", sum := "efbc4e947ae882c4db0eed3fc2e68404683e0a4d26a3ad828a1a8077dd876dc8", checked := Try.checked }
namespace Rows
def none {H : Type} : Left H := { results := [], args := [] }

/-- 'ballastlaw09.LinkBytes': WHATEVER THE INPUT: true; the input reads as it did. -/
def linkBytesSpec : ChangeSpec := { name := "linkBytes", fn := fun _ => fun
  | [d1, d2] => { results := [.lit (.bool true)], args := [d1, d2] }
  | _ => none }
def linkBytesRow : OpenClaim := { program := "ytgcpoehchohleaa", sum := "efbc4e947ae882c4db0eed3fc2e68404683e0a4d26a3ad828a1a8077dd876dc8", func := "ballast/ballastlaw09.LinkBytes", spec := "linkBytes", inPlace := ["internal/abi.NoEscape", "internal/bytealg.MakeNoZero"], apart := false }
def LinkBytesSaid : Prop := linkBytesRow.holds Try.pinned (OpenSpec.ofChange linkBytesSpec)

/-- ITS FALSE NEIGHBOUR: 'it returns false'. Refute it at one input. -/
def linkBytesWrong : ChangeSpec := { name := "linkBytes", fn := fun _ => fun
  | [d1, d2] => { results := [.lit (.bool false)], args := [d1, d2] }
  | _ => none }
def LinkBytesWrongFalsely : Prop := linkBytesRow.holds Try.pinned (OpenSpec.ofChange linkBytesWrong)

/-- 'ballastlaw09.LinkFresh': WHATEVER THE INPUT: true; the input reads as it did. -/
def linkFreshSpec : ChangeSpec := { name := "linkFresh", fn := fun _ => fun
  | [d1, d2, d3] => { results := [.lit (.bool true)], args := [d1, d2, d3] }
  | _ => none }
def linkFreshRow : OpenClaim := { program := "ytgcpoehchohleaa", sum := "efbc4e947ae882c4db0eed3fc2e68404683e0a4d26a3ad828a1a8077dd876dc8", func := "ballast/ballastlaw09.LinkFresh", spec := "linkFresh", inPlace := ["internal/abi.NoEscape", "internal/bytealg.MakeNoZero"], apart := false }
def LinkFreshSaid : Prop := linkFreshRow.holds Try.pinned (OpenSpec.ofChange linkFreshSpec)

/-- ITS FALSE NEIGHBOUR: 'it returns false'. Refute it at one input. -/
def linkFreshWrong : ChangeSpec := { name := "linkFresh", fn := fun _ => fun
  | [d1, d2, d3] => { results := [.lit (.bool false)], args := [d1, d2, d3] }
  | _ => none }
def LinkFreshWrongFalsely : Prop := linkFreshRow.holds Try.pinned (OpenSpec.ofChange linkFreshWrong)

/-- 'ballastlaw09.LinkSends': WHATEVER THE INPUT: true; the input reads as it did. -/
def linkSendsSpec : ChangeSpec := { name := "linkSends", fn := fun _ => fun
  | [d1, d2] => { results := [.lit (.bool true)], args := [d1, d2] }
  | _ => none }
def linkSendsRow : OpenClaim := { program := "ytgcpoehchohleaa", sum := "efbc4e947ae882c4db0eed3fc2e68404683e0a4d26a3ad828a1a8077dd876dc8", func := "ballast/ballastlaw09.LinkSends", spec := "linkSends", inPlace := ["internal/abi.NoEscape", "internal/bytealg.MakeNoZero"], apart := false }
def LinkSendsSaid : Prop := linkSendsRow.holds Try.pinned (OpenSpec.ofChange linkSendsSpec)

/-- ITS FALSE NEIGHBOUR: 'it returns false'. Refute it at one input. -/
def linkSendsWrong : ChangeSpec := { name := "linkSends", fn := fun _ => fun
  | [d1, d2] => { results := [.lit (.bool false)], args := [d1, d2] }
  | _ => none }
def LinkSendsWrongFalsely : Prop := linkSendsRow.holds Try.pinned (OpenSpec.ofChange linkSendsWrong)

/-- 'ballastlaw09.LinkAges': WHATEVER THE INPUT: true; the input reads as it did. -/
def linkAgesSpec : ChangeSpec := { name := "linkAges", fn := fun _ => fun
  | [d1, d2, d3] => { results := [.lit (.bool true)], args := [d1, d2, d3] }
  | _ => none }
def linkAgesRow : OpenClaim := { program := "ytgcpoehchohleaa", sum := "efbc4e947ae882c4db0eed3fc2e68404683e0a4d26a3ad828a1a8077dd876dc8", func := "ballast/ballastlaw09.LinkAges", spec := "linkAges", inPlace := ["internal/abi.NoEscape", "internal/bytealg.MakeNoZero"], apart := false }
def LinkAgesSaid : Prop := linkAgesRow.holds Try.pinned (OpenSpec.ofChange linkAgesSpec)

/-- ITS FALSE NEIGHBOUR: 'it returns false'. Refute it at one input. -/
def linkAgesWrong : ChangeSpec := { name := "linkAges", fn := fun _ => fun
  | [d1, d2, d3] => { results := [.lit (.bool false)], args := [d1, d2, d3] }
  | _ => none }
def LinkAgesWrongFalsely : Prop := linkAgesRow.holds Try.pinned (OpenSpec.ofChange linkAgesWrong)

/-- 'ballastlaw09.LinkSpoilt': WHATEVER THE INPUT: true; the input reads as it did. -/
def linkSpoiltSpec : ChangeSpec := { name := "linkSpoilt", fn := fun _ => fun
  | [d1, d2, d3] => { results := [.lit (.bool true)], args := [d1, d2, d3] }
  | _ => none }
def linkSpoiltRow : OpenClaim := { program := "ytgcpoehchohleaa", sum := "efbc4e947ae882c4db0eed3fc2e68404683e0a4d26a3ad828a1a8077dd876dc8", func := "ballast/ballastlaw09.LinkSpoilt", spec := "linkSpoilt", inPlace := ["internal/abi.NoEscape", "internal/bytealg.MakeNoZero"], apart := false }
def LinkSpoiltSaid : Prop := linkSpoiltRow.holds Try.pinned (OpenSpec.ofChange linkSpoiltSpec)

/-- ITS FALSE NEIGHBOUR: 'it returns false'. Refute it at one input. -/
def linkSpoiltWrong : ChangeSpec := { name := "linkSpoilt", fn := fun _ => fun
  | [d1, d2, d3] => { results := [.lit (.bool false)], args := [d1, d2, d3] }
  | _ => none }
def LinkSpoiltWrongFalsely : Prop := linkSpoiltRow.holds Try.pinned (OpenSpec.ofChange linkSpoiltWrong)

/-- 'ballastlaw09.LinkTakes': WHATEVER THE INPUT: true; the input reads as it did. -/
def linkTakesSpec : ChangeSpec := { name := "linkTakes", fn := fun _ => fun
  | [d1, d2, d3] => { results := [.lit (.bool true)], args := [d1, d2, d3] }
  | _ => none }
def linkTakesRow : OpenClaim := { program := "ytgcpoehchohleaa", sum := "efbc4e947ae882c4db0eed3fc2e68404683e0a4d26a3ad828a1a8077dd876dc8", func := "ballast/ballastlaw09.LinkTakes", spec := "linkTakes", inPlace := ["internal/abi.NoEscape", "internal/bytealg.MakeNoZero"], apart := false }
def LinkTakesSaid : Prop := linkTakesRow.holds Try.pinned (OpenSpec.ofChange linkTakesSpec)

/-- ITS FALSE NEIGHBOUR: 'it returns false'. Refute it at one input. -/
def linkTakesWrong : ChangeSpec := { name := "linkTakes", fn := fun _ => fun
  | [d1, d2, d3] => { results := [.lit (.bool false)], args := [d1, d2, d3] }
  | _ => none }
def LinkTakesWrongFalsely : Prop := linkTakesRow.holds Try.pinned (OpenSpec.ofChange linkTakesWrong)

/-- 'ballastlaw09.LinkTwice': WHATEVER THE INPUT: true; the input reads as it did. -/
def linkTwiceSpec : ChangeSpec := { name := "linkTwice", fn := fun _ => fun
  | [d1, d2] => { results := [.lit (.bool true)], args := [d1, d2] }
  | _ => none }
def linkTwiceRow : OpenClaim := { program := "ytgcpoehchohleaa", sum := "efbc4e947ae882c4db0eed3fc2e68404683e0a4d26a3ad828a1a8077dd876dc8", func := "ballast/ballastlaw09.LinkTwice", spec := "linkTwice", inPlace := ["internal/abi.NoEscape", "internal/bytealg.MakeNoZero"], apart := false }
def LinkTwiceSaid : Prop := linkTwiceRow.holds Try.pinned (OpenSpec.ofChange linkTwiceSpec)

/-- ITS FALSE NEIGHBOUR: 'it returns false'. Refute it at one input. -/
def linkTwiceWrong : ChangeSpec := { name := "linkTwice", fn := fun _ => fun
  | [d1, d2] => { results := [.lit (.bool false)], args := [d1, d2] }
  | _ => none }
def LinkTwiceWrongFalsely : Prop := linkTwiceRow.holds Try.pinned (OpenSpec.ofChange linkTwiceWrong)

/- THE SECOND FORM. 'bulk': how many values and letters a reading holds, each counted each time it is reached (what is shared counts as often as it is met; a slice's spare places count too). A statement '..UptoSaid' is the law's where the arguments, and the package variables that the reading takes, are together of bulk at most 1048576: NARROWER than '..Said'. Prove '..Said' where nothing that the law and all that it calls make is longer than what came in: it says more and counts as full. Else prove '..UptoSaid'. A law counts once. -/
mutual
def uptoBulk {H : Type} : DataW H → Nat
  | .lit (.string bytes) => bytes.length + 1
  | .lit _ => 1
  | .nil => 1
  | .ptr d => uptoBulk d + 1
  | .slice elems spare => uptoBulkAll elems + uptoBulkAll spare + 1
  | .agg parts => uptoBulkAll parts + 1
  | .iface _ d => uptoBulk d + 1
  | .map entries => uptoBulkEntries entries + 1
  | .held _ => 1
def uptoBulkAll {H : Type} : List (DataW H) → Nat
  | [] => 0
  | d :: r => uptoBulk d + uptoBulkAll r
def uptoBulkEntries {H : Type} : List (Lit × DataW H) → Nat
  | [] => 0
  | x :: r => uptoBulkEntry x + uptoBulkEntries r
def uptoBulkEntry {H : Type} : Lit × DataW H → Nat
  | (.string bytes, d) => bytes.length + uptoBulk d + 1
  | (_, d) => uptoBulk d + 1
 end
def uptoSmall : (H : Type) → List (DataW H) → Bool := fun _ ds => decide (uptoBulkAll ds ≤ 1048576)
def OpenSpec.upto (s : _root_.Go.ChangeSpec) : _root_.Go.OpenSpec := { _root_.Go.OpenSpec.ofChange s with cond := some uptoSmall }

/-- 'ballastlaw09.LinkBytes', WHERE WHAT IT READS IS OF BULK AT MOST 1048576: true; the input reads as it did. -/
def linkBytesUptoRow : OpenClaim := { program := "ytgcpoehchohleaa", sum := "efbc4e947ae882c4db0eed3fc2e68404683e0a4d26a3ad828a1a8077dd876dc8", func := "ballast/ballastlaw09.LinkBytes", spec := "linkBytes", inPlace := ["internal/abi.NoEscape", "internal/bytealg.MakeNoZero"], apart := false, narrowed := true }
def LinkBytesUptoSaid : Prop := linkBytesUptoRow.holds Try.pinned (OpenSpec.upto linkBytesSpec)

/-- 'ballastlaw09.LinkFresh', WHERE WHAT IT READS IS OF BULK AT MOST 1048576: true; the input reads as it did. -/
def linkFreshUptoRow : OpenClaim := { program := "ytgcpoehchohleaa", sum := "efbc4e947ae882c4db0eed3fc2e68404683e0a4d26a3ad828a1a8077dd876dc8", func := "ballast/ballastlaw09.LinkFresh", spec := "linkFresh", inPlace := ["internal/abi.NoEscape", "internal/bytealg.MakeNoZero"], apart := false, narrowed := true }
def LinkFreshUptoSaid : Prop := linkFreshUptoRow.holds Try.pinned (OpenSpec.upto linkFreshSpec)

/-- 'ballastlaw09.LinkSends', WHERE WHAT IT READS IS OF BULK AT MOST 1048576: true; the input reads as it did. -/
def linkSendsUptoRow : OpenClaim := { program := "ytgcpoehchohleaa", sum := "efbc4e947ae882c4db0eed3fc2e68404683e0a4d26a3ad828a1a8077dd876dc8", func := "ballast/ballastlaw09.LinkSends", spec := "linkSends", inPlace := ["internal/abi.NoEscape", "internal/bytealg.MakeNoZero"], apart := false, narrowed := true }
def LinkSendsUptoSaid : Prop := linkSendsUptoRow.holds Try.pinned (OpenSpec.upto linkSendsSpec)

/-- 'ballastlaw09.LinkAges', WHERE WHAT IT READS IS OF BULK AT MOST 1048576: true; the input reads as it did. -/
def linkAgesUptoRow : OpenClaim := { program := "ytgcpoehchohleaa", sum := "efbc4e947ae882c4db0eed3fc2e68404683e0a4d26a3ad828a1a8077dd876dc8", func := "ballast/ballastlaw09.LinkAges", spec := "linkAges", inPlace := ["internal/abi.NoEscape", "internal/bytealg.MakeNoZero"], apart := false, narrowed := true }
def LinkAgesUptoSaid : Prop := linkAgesUptoRow.holds Try.pinned (OpenSpec.upto linkAgesSpec)

/-- 'ballastlaw09.LinkSpoilt', WHERE WHAT IT READS IS OF BULK AT MOST 1048576: true; the input reads as it did. -/
def linkSpoiltUptoRow : OpenClaim := { program := "ytgcpoehchohleaa", sum := "efbc4e947ae882c4db0eed3fc2e68404683e0a4d26a3ad828a1a8077dd876dc8", func := "ballast/ballastlaw09.LinkSpoilt", spec := "linkSpoilt", inPlace := ["internal/abi.NoEscape", "internal/bytealg.MakeNoZero"], apart := false, narrowed := true }
def LinkSpoiltUptoSaid : Prop := linkSpoiltUptoRow.holds Try.pinned (OpenSpec.upto linkSpoiltSpec)

/-- 'ballastlaw09.LinkTakes', WHERE WHAT IT READS IS OF BULK AT MOST 1048576: true; the input reads as it did. -/
def linkTakesUptoRow : OpenClaim := { program := "ytgcpoehchohleaa", sum := "efbc4e947ae882c4db0eed3fc2e68404683e0a4d26a3ad828a1a8077dd876dc8", func := "ballast/ballastlaw09.LinkTakes", spec := "linkTakes", inPlace := ["internal/abi.NoEscape", "internal/bytealg.MakeNoZero"], apart := false, narrowed := true }
def LinkTakesUptoSaid : Prop := linkTakesUptoRow.holds Try.pinned (OpenSpec.upto linkTakesSpec)

/-- 'ballastlaw09.LinkTwice', WHERE WHAT IT READS IS OF BULK AT MOST 1048576: true; the input reads as it did. -/
def linkTwiceUptoRow : OpenClaim := { program := "ytgcpoehchohleaa", sum := "efbc4e947ae882c4db0eed3fc2e68404683e0a4d26a3ad828a1a8077dd876dc8", func := "ballast/ballastlaw09.LinkTwice", spec := "linkTwice", inPlace := ["internal/abi.NoEscape", "internal/bytealg.MakeNoZero"], apart := false, narrowed := true }
def LinkTwiceUptoSaid : Prop := linkTwiceUptoRow.holds Try.pinned (OpenSpec.upto linkTwiceSpec)

end Rows
end Go.Proofs.Ytgcpoehchohleaa
