/- CellsApart holds for every input: a memory and what it is found as when the power is back know nothing of one another. No condition. -/
import Derived.Test.YtakffjjnogpolaaCellsG
import Derived.Test.YtakffjjnogpolaaLibU
import Derived.Test.YtakffjjnogpolaaPackO
namespace Go.Proofs.Ytakffjjnogpolaa
open Go.ChangeShapes Go.WideShapes Go.ChangeAt Go.RowKit Go.BK

set_option maxRecDepth 100000 in
theorem cellsApart_lifted (os : Os) (started : os.Started) (H : Type) (enc : TypeId × Value → H) :
    ReturnsInHanded {} Try.checked os 4 .any (Rows.cellsApartSpec.pre6 enc Try.prog Try.f4 Rows.cellsApartRow.domain false) (Rows.cellsApartSpec.post enc Try.prog Try.f4 false true false false) := by
  refine law_lifted (C := Try.checked) (s := Rows.cellsApartSpec) (tb := 4) Try.own started (by kernel_rfl) Try.func4 rfl Try.underlying4 rfl Try.laidOut (by kernel_rfl) (by intro ds h; match ds, h with | [d1, d2], _ => rfl)
    (ChangeSpec.witness6 (enc := enc) (C := Try.checked) false ⟨#[], #[.string ⟨#[]⟩, .int .i64 0], []⟩ 8 (by kernel_rfl) (by kernel_rfl) (by kernel_rfl) (by kernel_rfl)) ?_
  intro W base args ds p hval hA0 hsz0
  have hA : DataW.TrodAll enc Try.prog W 0 (fun _ => true) true Try.f4.params.toList args.toList ds p := hA0
  have hsz : (DataW.weightsEach Try.prog Try.f4.params.toList ds).all (· ≤ reachBytes) = true := hsz0
  rw [Try.params4] at hA hsz hval
  clear hA0 hsz0
  obtain ⟨v0, v1, d0, d1, p0, p1, rfl, rfl, rfl, h0, h1⟩ := trodAll_two hA
  obtain ⟨l, rfl, hl⟩ := arg_str (j := 0) Try.underlying9 (hval 0 9 v0 rfl rfl) h0 hsz rfl rfl
  obtain ⟨x, rfl, rfl, rfl, _⟩ := open_int Try.underlying3 (hval 1 3 v1 rfl rfl) h1
  exact (cellsApart_law l x W _ (fun _ h => h) (by omega)).law (fun _ _ h => h)
theorem cellsApart_holds : Rows.CellsApartSaid :=
  OpenClaim.holds_of_wide 4 Try.f4 rfl rfl rfl rfl rfl rfl rfl ⟨rfl, rfl, rfl, rfl, rfl⟩ rfl rfl rfl rfl rfl (by kernel_rfl) Try.func4 (by kernel_rfl)
    (of_decide_eq_true (by kernel_rfl)) (by unfold Func.isWrapper; first | (rw [if_pos (by decide +kernel)]; kernel_rfl) | (rw [if_neg (by decide +kernel)]; exact ⟨rfl, rfl⟩))
    (fun os started H enc _ => cellsApart_lifted os started H enc)
#print axioms cellsApart_holds
end Go.Proofs.Ytakffjjnogpolaa
