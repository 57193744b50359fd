/-
  No cell of these rows narrows 'for every input' (looked for: loops, veiled, ifaces, maps, wideKeys, modest, calm, conditions, laid).
  DERIVED. THE GIVEN ROWS OF THIS SEAT. 6 by the template 'for every input the law returns true; each argument reads behind the call as it read before'; 0 by the template 'total and deterministic' (their statements: YtoaajdmacngnjaaTotals.lean).
  GIVEN WITH THE SEED: the statements are not yours to turn. If you find one false, say at which input.
  Laid BY PROGRAM, IN A SANDBOX (cutbox-rows.mjs): the forced cells as the released guide's own fill.sh prints them over the translation 7f9a8c1d610fdd7d… (all of the seat's roots in one cut). By AI agents, Wed Nov 11 2026. No macro, syntax, notation, axiom, sorry.
-/
import Derived.Test.YtoaajdmacngnjaaChecked
import GoSem.Claim
import GoSem.ClaimJoined
import GoSem.ClaimMapViews
import Derived.JoinedTies
import Derived.KernelRfl
namespace Go.Proofs.Ytoaajdmacngnjaa
/- THE CELL 'sum', in the pinned program and in every row, IS THE sha256 OF THE DUMP (.gsa) THAT YtoaajdmacngnjaaProg.lean LOADS. Nothing in Lean hashes anything: it is a label: what it is worth is what the hold of that sum in a sandbox is worth. -/
noncomputable def Try.pinned : Pinned := { name := "ytoaajdmacngnjaa", sum := "7f9a8c1d610fdd7d9d9bc60b2ac948061ecc8d6ccfc893366627b2fdcf5e3586", checked := Try.checked }
namespace Rows
def none {H : Type} : Left H := { results := [], args := [] }

/-- 'ballastlaw20.WiresPlays': WHATEVER THE INPUT: true; the input reads as it did. -/
def wiresPlaysSpec : ChangeSpec := { name := "wiresPlays", fn := fun _ => fun
  | [d] => { results := [.lit (.bool true)], args := [d] }
  | _ => none }
def wiresPlaysRow : OpenClaim := { program := "ytoaajdmacngnjaa", sum := "7f9a8c1d610fdd7d9d9bc60b2ac948061ecc8d6ccfc893366627b2fdcf5e3586", func := "ballast/ballastlaw20.WiresPlays", spec := "wiresPlays", unfollowed := true, recurses := true, plainKeys := false, apart := false }
def WiresPlaysSaid : Prop := wiresPlaysRow.holds Try.pinned (OpenSpec.ofChange wiresPlaysSpec)

/-- ITS FALSE NEIGHBOUR: 'it returns false'. Refute it at one input. -/
def wiresPlaysWrong : ChangeSpec := { name := "wiresPlays", fn := fun _ => fun
  | [d] => { results := [.lit (.bool false)], args := [d] }
  | _ => none }
def WiresPlaysWrongFalsely : Prop := wiresPlaysRow.holds Try.pinned (OpenSpec.ofChange wiresPlaysWrong)

/-- 'ballastlaw20.WiresKeep': WHATEVER THE INPUT: true; the input reads as it did. -/
def wiresKeepSpec : ChangeSpec := { name := "wiresKeep", fn := fun _ => fun
  | [d] => { results := [.lit (.bool true)], args := [d] }
  | _ => none }
def wiresKeepRow : OpenClaim := { program := "ytoaajdmacngnjaa", sum := "7f9a8c1d610fdd7d9d9bc60b2ac948061ecc8d6ccfc893366627b2fdcf5e3586", func := "ballast/ballastlaw20.WiresKeep", spec := "wiresKeep", unfollowed := true, recurses := true, plainKeys := false, apart := false }
def WiresKeepSaid : Prop := wiresKeepRow.holds Try.pinned (OpenSpec.ofChange wiresKeepSpec)

/-- ITS FALSE NEIGHBOUR: 'it returns false'. Refute it at one input. -/
def wiresKeepWrong : ChangeSpec := { name := "wiresKeep", fn := fun _ => fun
  | [d] => { results := [.lit (.bool false)], args := [d] }
  | _ => none }
def WiresKeepWrongFalsely : Prop := wiresKeepRow.holds Try.pinned (OpenSpec.ofChange wiresKeepWrong)

/-- 'ballastlaw20.WiresPass': WHATEVER THE INPUT: true; the input reads as it did. -/
def wiresPassSpec : ChangeSpec := { name := "wiresPass", fn := fun _ => fun
  | [d1, d2] => { results := [.lit (.bool true)], args := [d1, d2] }
  | _ => none }
def wiresPassRow : OpenClaim := { program := "ytoaajdmacngnjaa", sum := "7f9a8c1d610fdd7d9d9bc60b2ac948061ecc8d6ccfc893366627b2fdcf5e3586", func := "ballast/ballastlaw20.WiresPass", spec := "wiresPass", unfollowed := true, recurses := true, plainKeys := false, apart := false }
def WiresPassSaid : Prop := wiresPassRow.holds Try.pinned (OpenSpec.ofChange wiresPassSpec)

/-- ITS FALSE NEIGHBOUR: 'it returns false'. Refute it at one input. -/
def wiresPassWrong : ChangeSpec := { name := "wiresPass", fn := fun _ => fun
  | [d1, d2] => { results := [.lit (.bool false)], args := [d1, d2] }
  | _ => none }
def WiresPassWrongFalsely : Prop := wiresPassRow.holds Try.pinned (OpenSpec.ofChange wiresPassWrong)

/-- 'ballastlaw20.WiresHold': WHATEVER THE INPUT: true; the input reads as it did. -/
def wiresHoldSpec : ChangeSpec := { name := "wiresHold", fn := fun _ => fun
  | [d1, d2, d3] => { results := [.lit (.bool true)], args := [d1, d2, d3] }
  | _ => none }
def wiresHoldRow : OpenClaim := { program := "ytoaajdmacngnjaa", sum := "7f9a8c1d610fdd7d9d9bc60b2ac948061ecc8d6ccfc893366627b2fdcf5e3586", func := "ballast/ballastlaw20.WiresHold", spec := "wiresHold", unfollowed := true, recurses := true, plainKeys := false, apart := false }
def WiresHoldSaid : Prop := wiresHoldRow.holds Try.pinned (OpenSpec.ofChange wiresHoldSpec)

/-- ITS FALSE NEIGHBOUR: 'it returns false'. Refute it at one input. -/
def wiresHoldWrong : ChangeSpec := { name := "wiresHold", fn := fun _ => fun
  | [d1, d2, d3] => { results := [.lit (.bool false)], args := [d1, d2, d3] }
  | _ => none }
def WiresHoldWrongFalsely : Prop := wiresHoldRow.holds Try.pinned (OpenSpec.ofChange wiresHoldWrong)

/-- 'ballastlaw20.WiresSpoil': WHATEVER THE INPUT: true; the input reads as it did. -/
def wiresSpoilSpec : ChangeSpec := { name := "wiresSpoil", fn := fun _ => fun
  | [d1, d2] => { results := [.lit (.bool true)], args := [d1, d2] }
  | _ => none }
def wiresSpoilRow : OpenClaim := { program := "ytoaajdmacngnjaa", sum := "7f9a8c1d610fdd7d9d9bc60b2ac948061ecc8d6ccfc893366627b2fdcf5e3586", func := "ballast/ballastlaw20.WiresSpoil", spec := "wiresSpoil", unfollowed := true, recurses := true, plainKeys := false, apart := false }
def WiresSpoilSaid : Prop := wiresSpoilRow.holds Try.pinned (OpenSpec.ofChange wiresSpoilSpec)

/-- ITS FALSE NEIGHBOUR: 'it returns false'. Refute it at one input. -/
def wiresSpoilWrong : ChangeSpec := { name := "wiresSpoil", fn := fun _ => fun
  | [d1, d2] => { results := [.lit (.bool false)], args := [d1, d2] }
  | _ => none }
def WiresSpoilWrongFalsely : Prop := wiresSpoilRow.holds Try.pinned (OpenSpec.ofChange wiresSpoilWrong)

/-- 'ballastlaw20.WiresLate': WHATEVER THE INPUT: true; the input reads as it did. -/
def wiresLateSpec : ChangeSpec := { name := "wiresLate", fn := fun _ => fun
  | [d1, d2, d3] => { results := [.lit (.bool true)], args := [d1, d2, d3] }
  | _ => none }
def wiresLateRow : OpenClaim := { program := "ytoaajdmacngnjaa", sum := "7f9a8c1d610fdd7d9d9bc60b2ac948061ecc8d6ccfc893366627b2fdcf5e3586", func := "ballast/ballastlaw20.WiresLate", spec := "wiresLate", unfollowed := true, recurses := true, plainKeys := false, apart := false }
def WiresLateSaid : Prop := wiresLateRow.holds Try.pinned (OpenSpec.ofChange wiresLateSpec)

/-- ITS FALSE NEIGHBOUR: 'it returns false'. Refute it at one input. -/
def wiresLateWrong : ChangeSpec := { name := "wiresLate", fn := fun _ => fun
  | [d1, d2, d3] => { results := [.lit (.bool false)], args := [d1, d2, d3] }
  | _ => none }
def WiresLateWrongFalsely : Prop := wiresLateRow.holds Try.pinned (OpenSpec.ofChange wiresLateWrong)

/- THE SECOND FORM. 'bulk': how many values and letters a reading holds, each counted each time it is reached (what is shared counts as often as it is met; a slice's spare places count too). A statement '..UptoSaid' is the law's where the arguments, and the package variables that the reading takes, are together of bulk at most 1048576: NARROWER than '..Said'. Prove '..Said' where nothing that the law and all that it calls make is longer than what came in: it says more and counts as full. Else prove '..UptoSaid'. A law counts once. -/
mutual
def uptoBulk {H : Type} : DataW H → Nat
  | .lit (.string bytes) => bytes.length + 1
  | .lit _ => 1
  | .nil => 1
  | .ptr d => uptoBulk d + 1
  | .slice elems spare => uptoBulkAll elems + uptoBulkAll spare + 1
  | .agg parts => uptoBulkAll parts + 1
  | .iface _ d => uptoBulk d + 1
  | .map entries => uptoBulkEntries entries + 1
  | .held _ => 1
def uptoBulkAll {H : Type} : List (DataW H) → Nat
  | [] => 0
  | d :: r => uptoBulk d + uptoBulkAll r
def uptoBulkEntries {H : Type} : List (Lit × DataW H) → Nat
  | [] => 0
  | x :: r => uptoBulkEntry x + uptoBulkEntries r
def uptoBulkEntry {H : Type} : Lit × DataW H → Nat
  | (.string bytes, d) => bytes.length + uptoBulk d + 1
  | (_, d) => uptoBulk d + 1
 end
def uptoSmall : (H : Type) → List (DataW H) → Bool := fun _ ds => decide (uptoBulkAll ds ≤ 1048576)
def OpenSpec.upto (s : _root_.Go.ChangeSpec) : _root_.Go.OpenSpec := { _root_.Go.OpenSpec.ofChange s with cond := some uptoSmall }

/-- 'ballastlaw20.WiresPlays', WHERE WHAT IT READS IS OF BULK AT MOST 1048576: true; the input reads as it did. -/
def wiresPlaysUptoRow : OpenClaim := { program := "ytoaajdmacngnjaa", sum := "7f9a8c1d610fdd7d9d9bc60b2ac948061ecc8d6ccfc893366627b2fdcf5e3586", func := "ballast/ballastlaw20.WiresPlays", spec := "wiresPlays", unfollowed := true, recurses := true, plainKeys := false, apart := false, narrowed := true }
def WiresPlaysUptoSaid : Prop := wiresPlaysUptoRow.holds Try.pinned (OpenSpec.upto wiresPlaysSpec)

/-- 'ballastlaw20.WiresKeep', WHERE WHAT IT READS IS OF BULK AT MOST 1048576: true; the input reads as it did. -/
def wiresKeepUptoRow : OpenClaim := { program := "ytoaajdmacngnjaa", sum := "7f9a8c1d610fdd7d9d9bc60b2ac948061ecc8d6ccfc893366627b2fdcf5e3586", func := "ballast/ballastlaw20.WiresKeep", spec := "wiresKeep", unfollowed := true, recurses := true, plainKeys := false, apart := false, narrowed := true }
def WiresKeepUptoSaid : Prop := wiresKeepUptoRow.holds Try.pinned (OpenSpec.upto wiresKeepSpec)

/-- 'ballastlaw20.WiresPass', WHERE WHAT IT READS IS OF BULK AT MOST 1048576: true; the input reads as it did. -/
def wiresPassUptoRow : OpenClaim := { program := "ytoaajdmacngnjaa", sum := "7f9a8c1d610fdd7d9d9bc60b2ac948061ecc8d6ccfc893366627b2fdcf5e3586", func := "ballast/ballastlaw20.WiresPass", spec := "wiresPass", unfollowed := true, recurses := true, plainKeys := false, apart := false, narrowed := true }
def WiresPassUptoSaid : Prop := wiresPassUptoRow.holds Try.pinned (OpenSpec.upto wiresPassSpec)

/-- 'ballastlaw20.WiresHold', WHERE WHAT IT READS IS OF BULK AT MOST 1048576: true; the input reads as it did. -/
def wiresHoldUptoRow : OpenClaim := { program := "ytoaajdmacngnjaa", sum := "7f9a8c1d610fdd7d9d9bc60b2ac948061ecc8d6ccfc893366627b2fdcf5e3586", func := "ballast/ballastlaw20.WiresHold", spec := "wiresHold", unfollowed := true, recurses := true, plainKeys := false, apart := false, narrowed := true }
def WiresHoldUptoSaid : Prop := wiresHoldUptoRow.holds Try.pinned (OpenSpec.upto wiresHoldSpec)

/-- 'ballastlaw20.WiresSpoil', WHERE WHAT IT READS IS OF BULK AT MOST 1048576: true; the input reads as it did. -/
def wiresSpoilUptoRow : OpenClaim := { program := "ytoaajdmacngnjaa", sum := "7f9a8c1d610fdd7d9d9bc60b2ac948061ecc8d6ccfc893366627b2fdcf5e3586", func := "ballast/ballastlaw20.WiresSpoil", spec := "wiresSpoil", unfollowed := true, recurses := true, plainKeys := false, apart := false, narrowed := true }
def WiresSpoilUptoSaid : Prop := wiresSpoilUptoRow.holds Try.pinned (OpenSpec.upto wiresSpoilSpec)

/-- 'ballastlaw20.WiresLate', WHERE WHAT IT READS IS OF BULK AT MOST 1048576: true; the input reads as it did. -/
def wiresLateUptoRow : OpenClaim := { program := "ytoaajdmacngnjaa", sum := "7f9a8c1d610fdd7d9d9bc60b2ac948061ecc8d6ccfc893366627b2fdcf5e3586", func := "ballast/ballastlaw20.WiresLate", spec := "wiresLate", unfollowed := true, recurses := true, plainKeys := false, apart := false, narrowed := true }
def WiresLateUptoSaid : Prop := wiresLateUptoRow.holds Try.pinned (OpenSpec.upto wiresLateSpec)

end Rows
end Go.Proofs.Ytoaajdmacngnjaa
