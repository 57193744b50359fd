/- TeleShapes holds for every input: a controller's shape is what the document says, of any station; and of a station whose controllers are 0 to 3 each element stands in just one shape. No condition. -/
import Derived.Test.YtdnpofigagdabaaTeleX
namespace Go.Proofs.Ytdnpofigagdabaa
open Go.ChangeShapes Go.WideShapes Go.ChangeAt Go.RowKit Go.BK

set_option maxRecDepth 100000 in
theorem teleShapes_lifted (os : Os) (started : os.Started) (H : Type) (enc : TypeId × Value → H) :
    ReturnsInHanded {} Try.checked os 3 .any (Rows.teleShapesSpec.pre6 enc Try.prog Try.f3 Rows.teleShapesRow.domain false) (Rows.teleShapesSpec.post enc Try.prog Try.f3 false true false false) := by
  refine law_lifted (C := Try.checked) (s := Rows.teleShapesSpec) (tb := 4) Try.own started (by kernel_rfl) Try.func3 rfl Try.underlying4 rfl Try.laidOut (by kernel_rfl) (by intro ds h; match ds, h with | [d1, d2], _ => rfl)
    (ChangeSpec.witness6 (enc := enc) (C := Try.checked) false ⟨#[], #[.agg #[.slice none 0 0, .slice none 0 0, .slice none 0 0, .slice none 0 0, .slice none 0 0, .int .i64 0, .int .i64 0, .int .i64 0, .int .i64 0], .int .i64 0], []⟩ 8 (by kernel_rfl) (by kernel_rfl) (by kernel_rfl) (by kernel_rfl)) ?_
  intro W base args ds p hval hA0 hsz0
  have hA : DataW.TrodAll enc Try.prog W 0 (fun _ => true) true Try.f3.params.toList args.toList ds p := hA0
  have hsz : (DataW.weightsEach Try.prog Try.f3.params.toList ds).all (· ≤ reachBytes) = true := hsz0
  rw [Try.params3] at hA hsz hval
  clear hA0 hsz0
  obtain ⟨v0, v1, d0, d1, p0, p1, rfl, rfl, rfl, h0, h1⟩ := trodAll_two hA
  obtain ⟨c, rfl, hc⟩ := arg_agg (j := 0) opens_config (okWide_struct Try.underlying30 (hval 0 30 v0 rfl rfl)) h0 hsz rfl rfl
  obtain ⟨o, rfl, rfl, rfl, _⟩ := open_int Try.underlying3 (hval 1 3 v1 rfl rfl) h1
  exact (teleShapes_law c o W _ (fun _ h => h) hc).law (fun _ _ h => h)
theorem teleShapes_holds : Rows.TeleShapesSaid :=
  OpenClaim.holds_of_wide 3 Try.f3 rfl rfl rfl rfl rfl rfl rfl ⟨rfl, rfl, rfl, rfl, rfl⟩ rfl rfl rfl rfl rfl (by kernel_rfl) Try.func3 (by kernel_rfl)
    (of_decide_eq_true (by kernel_rfl)) (by unfold Func.isWrapper; first | (rw [if_pos (by decide +kernel)]; kernel_rfl) | (rw [if_neg (by decide +kernel)]; exact ⟨rfl, rfl⟩))
    (fun os started H enc _ => teleShapes_lifted os started H enc)
#print axioms teleShapes_holds
end Go.Proofs.Ytdnpofigagdabaa
