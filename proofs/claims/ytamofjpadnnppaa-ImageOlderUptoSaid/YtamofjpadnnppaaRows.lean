/-
  No cell of these rows narrows 'for every input' (looked for: loops, veiled, ifaces, maps, wideKeys, modest, calm, conditions, laid).
  DERIVED. THE GIVEN ROWS OF THIS SEAT. 4 by the template 'for every input the law returns true; each argument reads behind the call as it read before'; 0 by the template 'total and deterministic' (their statements: YtamofjpadnnppaaTotals.lean).
  GIVEN WITH THE SEED: the statements are not yours to turn. If you find one false, say at which input.
  Laid BY PROGRAM, IN A SANDBOX (cutbox-rows.mjs): the forced cells as the released guide's own fill.sh prints them over the translation 8b4e3700535b75f7… (all of the seat's roots in one cut). By AI agents, Wed Nov 11 2026. No macro, syntax, notation, axiom, sorry.
-/
import Derived.Test.YtamofjpadnnppaaChecked
import GoSem.Claim
import GoSem.ClaimJoined
import GoSem.ClaimMapViews
import Derived.JoinedTies
import Derived.KernelRfl
namespace Go.Proofs.Ytamofjpadnnppaa
/- THE CELL 'sum', in the pinned program and in every row, IS THE sha256 OF THE DUMP (.gsa) THAT YtamofjpadnnppaaProg.lean LOADS. Nothing in Lean hashes anything: it is a label: what it is worth is what the hold of that sum in a sandbox is worth. -/
noncomputable def Try.pinned : Pinned := { name := "ytamofjpadnnppaa", sum := "8b4e3700535b75f701fdf913493215a3a82c1b2b22c975ea8d94f2d9043815a2", checked := Try.checked }
namespace Rows
def none {H : Type} : Left H := { results := [], args := [] }

/-- 'ballastlaw11.ImageTrue': WHATEVER THE INPUT: true; the input reads as it did. -/
def imageTrueSpec : ChangeSpec := { name := "imageTrue", fn := fun _ => fun
  | [d1, d2] => { results := [.lit (.bool true)], args := [d1, d2] }
  | _ => none }
def imageTrueRow : OpenClaim := { program := "ytamofjpadnnppaa", sum := "8b4e3700535b75f701fdf913493215a3a82c1b2b22c975ea8d94f2d9043815a2", func := "ballast/ballastlaw11.ImageTrue", spec := "imageTrue", unfollowed := true, recurses := true, apart := false }
def ImageTrueSaid : Prop := imageTrueRow.holds Try.pinned (OpenSpec.ofChange imageTrueSpec)

/-- ITS FALSE NEIGHBOUR: 'it returns false'. Refute it at one input. -/
def imageTrueWrong : ChangeSpec := { name := "imageTrue", fn := fun _ => fun
  | [d1, d2] => { results := [.lit (.bool false)], args := [d1, d2] }
  | _ => none }
def ImageTrueWrongFalsely : Prop := imageTrueRow.holds Try.pinned (OpenSpec.ofChange imageTrueWrong)

/-- 'ballastlaw11.ImageAges': WHATEVER THE INPUT: true; the input reads as it did. -/
def imageAgesSpec : ChangeSpec := { name := "imageAges", fn := fun _ => fun
  | [d1, d2, d3] => { results := [.lit (.bool true)], args := [d1, d2, d3] }
  | _ => none }
def imageAgesRow : OpenClaim := { program := "ytamofjpadnnppaa", sum := "8b4e3700535b75f701fdf913493215a3a82c1b2b22c975ea8d94f2d9043815a2", func := "ballast/ballastlaw11.ImageAges", spec := "imageAges", unfollowed := true, recurses := true, apart := false }
def ImageAgesSaid : Prop := imageAgesRow.holds Try.pinned (OpenSpec.ofChange imageAgesSpec)

/-- ITS FALSE NEIGHBOUR: 'it returns false'. Refute it at one input. -/
def imageAgesWrong : ChangeSpec := { name := "imageAges", fn := fun _ => fun
  | [d1, d2, d3] => { results := [.lit (.bool false)], args := [d1, d2, d3] }
  | _ => none }
def ImageAgesWrongFalsely : Prop := imageAgesRow.holds Try.pinned (OpenSpec.ofChange imageAgesWrong)

/-- 'ballastlaw11.ImageTakes': WHATEVER THE INPUT: true; the input reads as it did. -/
def imageTakesSpec : ChangeSpec := { name := "imageTakes", fn := fun _ => fun
  | [d1, d2] => { results := [.lit (.bool true)], args := [d1, d2] }
  | _ => none }
def imageTakesRow : OpenClaim := { program := "ytamofjpadnnppaa", sum := "8b4e3700535b75f701fdf913493215a3a82c1b2b22c975ea8d94f2d9043815a2", func := "ballast/ballastlaw11.ImageTakes", spec := "imageTakes", unfollowed := true, recurses := true, apart := false }
def ImageTakesSaid : Prop := imageTakesRow.holds Try.pinned (OpenSpec.ofChange imageTakesSpec)

/-- ITS FALSE NEIGHBOUR: 'it returns false'. Refute it at one input. -/
def imageTakesWrong : ChangeSpec := { name := "imageTakes", fn := fun _ => fun
  | [d1, d2] => { results := [.lit (.bool false)], args := [d1, d2] }
  | _ => none }
def ImageTakesWrongFalsely : Prop := imageTakesRow.holds Try.pinned (OpenSpec.ofChange imageTakesWrong)

/-- 'ballastlaw11.ImageOlder': WHATEVER THE INPUT: true; the input reads as it did. -/
def imageOlderSpec : ChangeSpec := { name := "imageOlder", fn := fun _ => fun
  | [d1, d2, d3] => { results := [.lit (.bool true)], args := [d1, d2, d3] }
  | _ => none }
def imageOlderRow : OpenClaim := { program := "ytamofjpadnnppaa", sum := "8b4e3700535b75f701fdf913493215a3a82c1b2b22c975ea8d94f2d9043815a2", func := "ballast/ballastlaw11.ImageOlder", spec := "imageOlder", unfollowed := true, recurses := true, apart := false }
def ImageOlderSaid : Prop := imageOlderRow.holds Try.pinned (OpenSpec.ofChange imageOlderSpec)

/-- ITS FALSE NEIGHBOUR: 'it returns false'. Refute it at one input. -/
def imageOlderWrong : ChangeSpec := { name := "imageOlder", fn := fun _ => fun
  | [d1, d2, d3] => { results := [.lit (.bool false)], args := [d1, d2, d3] }
  | _ => none }
def ImageOlderWrongFalsely : Prop := imageOlderRow.holds Try.pinned (OpenSpec.ofChange imageOlderWrong)

/- THE SECOND FORM. 'bulk': how many values and letters a reading holds, each counted each time it is reached (what is shared counts as often as it is met; a slice's spare places count too). A statement '..UptoSaid' is the law's where the arguments, and the package variables that the reading takes, are together of bulk at most 1048576: NARROWER than '..Said'. Prove '..Said' where nothing that the law and all that it calls make is longer than what came in: it says more and counts as full. Else prove '..UptoSaid'. A law counts once. -/
mutual
def uptoBulk {H : Type} : DataW H → Nat
  | .lit (.string bytes) => bytes.length + 1
  | .lit _ => 1
  | .nil => 1
  | .ptr d => uptoBulk d + 1
  | .slice elems spare => uptoBulkAll elems + uptoBulkAll spare + 1
  | .agg parts => uptoBulkAll parts + 1
  | .iface _ d => uptoBulk d + 1
  | .map entries => uptoBulkEntries entries + 1
  | .held _ => 1
def uptoBulkAll {H : Type} : List (DataW H) → Nat
  | [] => 0
  | d :: r => uptoBulk d + uptoBulkAll r
def uptoBulkEntries {H : Type} : List (Lit × DataW H) → Nat
  | [] => 0
  | x :: r => uptoBulkEntry x + uptoBulkEntries r
def uptoBulkEntry {H : Type} : Lit × DataW H → Nat
  | (.string bytes, d) => bytes.length + uptoBulk d + 1
  | (_, d) => uptoBulk d + 1
 end
def uptoSmall : (H : Type) → List (DataW H) → Bool := fun _ ds => decide (uptoBulkAll ds ≤ 1048576)
def OpenSpec.upto (s : _root_.Go.ChangeSpec) : _root_.Go.OpenSpec := { _root_.Go.OpenSpec.ofChange s with cond := some uptoSmall }

/-- 'ballastlaw11.ImageTrue', WHERE WHAT IT READS IS OF BULK AT MOST 1048576: true; the input reads as it did. -/
def imageTrueUptoRow : OpenClaim := { program := "ytamofjpadnnppaa", sum := "8b4e3700535b75f701fdf913493215a3a82c1b2b22c975ea8d94f2d9043815a2", func := "ballast/ballastlaw11.ImageTrue", spec := "imageTrue", unfollowed := true, recurses := true, apart := false, narrowed := true }
def ImageTrueUptoSaid : Prop := imageTrueUptoRow.holds Try.pinned (OpenSpec.upto imageTrueSpec)

/-- 'ballastlaw11.ImageAges', WHERE WHAT IT READS IS OF BULK AT MOST 1048576: true; the input reads as it did. -/
def imageAgesUptoRow : OpenClaim := { program := "ytamofjpadnnppaa", sum := "8b4e3700535b75f701fdf913493215a3a82c1b2b22c975ea8d94f2d9043815a2", func := "ballast/ballastlaw11.ImageAges", spec := "imageAges", unfollowed := true, recurses := true, apart := false, narrowed := true }
def ImageAgesUptoSaid : Prop := imageAgesUptoRow.holds Try.pinned (OpenSpec.upto imageAgesSpec)

/-- 'ballastlaw11.ImageTakes', WHERE WHAT IT READS IS OF BULK AT MOST 1048576: true; the input reads as it did. -/
def imageTakesUptoRow : OpenClaim := { program := "ytamofjpadnnppaa", sum := "8b4e3700535b75f701fdf913493215a3a82c1b2b22c975ea8d94f2d9043815a2", func := "ballast/ballastlaw11.ImageTakes", spec := "imageTakes", unfollowed := true, recurses := true, apart := false, narrowed := true }
def ImageTakesUptoSaid : Prop := imageTakesUptoRow.holds Try.pinned (OpenSpec.upto imageTakesSpec)

/-- 'ballastlaw11.ImageOlder', WHERE WHAT IT READS IS OF BULK AT MOST 1048576: true; the input reads as it did. -/
def imageOlderUptoRow : OpenClaim := { program := "ytamofjpadnnppaa", sum := "8b4e3700535b75f701fdf913493215a3a82c1b2b22c975ea8d94f2d9043815a2", func := "ballast/ballastlaw11.ImageOlder", spec := "imageOlder", unfollowed := true, recurses := true, apart := false, narrowed := true }
def ImageOlderUptoSaid : Prop := imageOlderUptoRow.holds Try.pinned (OpenSpec.upto imageOlderSpec)

end Rows
end Go.Proofs.Ytamofjpadnnppaa
