/- DeskSteps holds for every input: along any row of commands a critical one is done only when its own session prepared just this one, at most sixteen cycles ahead. No condition. -/
import Derived.Test.YtehgfhjocfaciaaDeskO
import Derived.Test.YtehgfhjocfaciaaDeskJ
namespace Go.Proofs.Ytehgfhjocfaciaa
open Go.ChangeShapes Go.WideShapes Go.ChangeAt Go.RowKit Go.BK

section
variable {H : Type} {enc : TypeId × Value → H} {W : World}
theorem opens_come : Opens enc Try.prog W 37 comeC (fun _ => True) :=
  (Opens.struct Try.underlying37 (by kernel_rfl) (FO.cons (off' := 1) (Opens.int Try.underlying3) (by kernel_rfl) (by kernel_rfl) (FO.cons (off' := 5) opens_cmd (by kernel_rfl) (by kernel_rfl) FO.nil))).map
    (fun p => Come.mk p.1 p.2.1) (fun _ _ => rfl) (fun _ _ => trivial)
theorem come_room {l : List Come} (h3 : l.length * Try.prog.bytesOf 37 ≤ 140737488351232) : l.length ≤ 4398046511104 := by
  have hb : Try.prog.bytesOf 37 = 40 := by kernel_rfl
  rw [hb] at h3
  omega
end
set_option maxRecDepth 100000 in
theorem deskSteps_lifted (os : Os) (started : os.Started) (H : Type) (enc : TypeId × Value → H) :
    ReturnsInHanded {} Try.checked os 4 .any (Rows.deskStepsSpec.pre6 enc Try.prog Try.f4 Rows.deskStepsRow.domain false) (Rows.deskStepsSpec.post enc Try.prog Try.f4 false true false false) := by
  refine law_lifted (C := Try.checked) (s := Rows.deskStepsSpec) (tb := 4) Try.own started (by kernel_rfl) Try.func4 rfl Try.underlying4 rfl Try.laidOut (by kernel_rfl) (by intro ds h; match ds, h with | [d1], _ => rfl)
    (ChangeSpec.witness6 (enc := enc) (C := Try.checked) false ⟨#[], #[.slice none 0 0], []⟩ 8 (by kernel_rfl) (by kernel_rfl) (by kernel_rfl) (by kernel_rfl)) ?_
  intro W base args ds p hval hA0 hsz0
  have hA : DataW.TrodAll enc Try.prog W 0 (fun _ => true) true Try.f4.params.toList args.toList ds p := hA0
  have hsz : (DataW.weightsEach Try.prog Try.f4.params.toList ds).all (· ≤ reachBytes) = true := hsz0
  rw [Try.params4] at hA hsz hval
  clear hA0 hsz0
  obtain ⟨v0, d0, rfl, rfl, h0⟩ := trodAll_one hA
  obtain ⟨cs, hx, _, hb⟩ := arg_slice (j := 0) (sz := 5) Try.underlying33 (by kernel_rfl) (by decide) (fun _ => rfl) opens_come (hval 0 33 v0 rfl rfl) h0 hsz rfl rfl
  exact (deskSteps_law cs v0 W _ (fun _ h => h) hx (come_room hb)).law (fun _ _ h => h)
theorem deskSteps_holds : Rows.DeskStepsSaid :=
  OpenClaim.holds_of_wide 4 Try.f4 rfl rfl rfl rfl rfl rfl rfl ⟨rfl, rfl, rfl, rfl, rfl⟩ rfl rfl rfl rfl rfl (by kernel_rfl) Try.func4 (by kernel_rfl)
    (of_decide_eq_true (by kernel_rfl)) (by unfold Func.isWrapper; first | (rw [if_pos (by decide +kernel)]; kernel_rfl) | (rw [if_neg (by decide +kernel)]; exact ⟨rfl, rfl⟩))
    (fun os started H enc _ => deskSteps_lifted os started H enc)
#print axioms deskSteps_holds
end Go.Proofs.Ytehgfhjocfaciaa
