/- CellsCount holds for every input: acts are counted, refused calls aren't; each erasing, whole or cut, wears its page and no other. No condition. -/
import Derived.Test.YtakffjjnogpolaaCellsH
import Derived.Test.YtakffjjnogpolaaLibU
import Derived.Test.YtakffjjnogpolaaPackO
namespace Go.Proofs.Ytakffjjnogpolaa
open Go.ChangeShapes Go.WideShapes Go.ChangeAt Go.RowKit Go.BK

set_option maxRecDepth 100000 in
theorem cellsCount_lifted (os : Os) (started : os.Started) (H : Type) (enc : TypeId × Value → H) :
    ReturnsInHanded {} Try.checked os 8 .any (Rows.cellsCountSpec.pre6 enc Try.prog Try.f8 Rows.cellsCountRow.domain false) (Rows.cellsCountSpec.post enc Try.prog Try.f8 false true false false) := by
  refine law_lifted (C := Try.checked) (s := Rows.cellsCountSpec) (tb := 4) Try.own started (by kernel_rfl) Try.func8 rfl Try.underlying4 rfl Try.laidOut (by kernel_rfl) (by intro ds h; match ds, h with | [d1], _ => rfl)
    (ChangeSpec.witness6 (enc := enc) (C := Try.checked) false ⟨#[], #[.slice none 0 0], []⟩ 8 (by kernel_rfl) (by kernel_rfl) (by kernel_rfl) (by kernel_rfl)) ?_
  intro W base args ds p hval hA0 hsz0
  have hA : DataW.TrodAll enc Try.prog W 0 (fun _ => true) true Try.f8.params.toList args.toList ds p := hA0
  have hsz : (DataW.weightsEach Try.prog Try.f8.params.toList ds).all (· ≤ reachBytes) = true := hsz0
  rw [Try.params8] at hA hsz hval
  clear hA0 hsz0
  obtain ⟨v0, d0, rfl, rfl, h0⟩ := trodAll_one hA
  obtain ⟨xs, hx, _, hb⟩ := arg_slice (j := 0) (sz := 1) Try.underlying57 (by kernel_rfl) (by decide) (fun _ => rfl) (Opens.int Try.underlying3) (hval 0 57 v0 rfl rfl) h0 hsz rfl rfl
  have hb1 : Try.prog.bytesOf 3 = 8 := by kernel_rfl
  rw [hb1] at hb
  rw [flat_one] at hx
  exact (cellsCount_law v0 xs W _ (fun _ h => h) hx (by omega)).law (fun _ _ h => h)
theorem cellsCount_holds : Rows.CellsCountSaid :=
  OpenClaim.holds_of_wide 8 Try.f8 rfl rfl rfl rfl rfl rfl rfl ⟨rfl, rfl, rfl, rfl, rfl⟩ rfl rfl rfl rfl rfl (by kernel_rfl) Try.func8 (by kernel_rfl)
    (of_decide_eq_true (by kernel_rfl)) (by unfold Func.isWrapper; first | (rw [if_pos (by decide +kernel)]; kernel_rfl) | (rw [if_neg (by decide +kernel)]; exact ⟨rfl, rfl⟩))
    (fun os started H enc _ => cellsCount_lifted os started H enc)
#print axioms cellsCount_holds
end Go.Proofs.Ytakffjjnogpolaa
