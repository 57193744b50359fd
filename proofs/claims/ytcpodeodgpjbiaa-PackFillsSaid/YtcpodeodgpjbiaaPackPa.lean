/- PackFills holds for every input: just as many bytes go into a writer as its limit says. No condition. -/
import Derived.Test.YtcpodeodgpjbiaaPackO
import Derived.Test.YtcpodeodgpjbiaaPackE
namespace Go.Proofs.Ytcpodeodgpjbiaa
open Go.ChangeShapes Go.WideShapes Go.ChangeAt Go.RowKit Go.BK

set_option maxRecDepth 100000 in
theorem packFills_lifted (os : Os) (started : os.Started) (H : Type) (enc : TypeId × Value → H) :
    ReturnsInHanded {} Try.checked os 3 .any (Rows.packFillsSpec.pre6 enc Try.prog Try.f3 Rows.packFillsRow.domain false) (Rows.packFillsSpec.post enc Try.prog Try.f3 false true false false) := by
  refine law_lifted (C := Try.checked) (s := Rows.packFillsSpec) (tb := 4) Try.own started (by kernel_rfl) Try.func3 rfl Try.underlying4 rfl Try.laidOut (by kernel_rfl) (by intro ds h; match ds, h with | [d1, d2], _ => rfl)
    (ChangeSpec.witness6 (enc := enc) (C := Try.checked) false ⟨#[], #[.int .i64 0, .int .i64 0], []⟩ 8 (by kernel_rfl) (by kernel_rfl) (by kernel_rfl) (by kernel_rfl)) ?_
  intro W base args ds p hval hA0 hsz0
  have hA : DataW.TrodAll enc Try.prog W 0 (fun _ => true) true Try.f3.params.toList args.toList ds p := hA0
  have hsz : (DataW.weightsEach Try.prog Try.f3.params.toList ds).all (· ≤ reachBytes) = true := hsz0
  rw [Try.params3] at hA hsz hval
  clear hA0 hsz0
  obtain ⟨v0, v1, d0, d1, p0, p1, rfl, rfl, rfl, h0, h1⟩ := trodAll_two hA
  obtain ⟨a, rfl, rfl, rfl, wa⟩ := open_int Try.underlying3 (hval 0 3 v0 rfl rfl) h0
  obtain ⟨b, rfl, rfl, rfl, wb⟩ := open_int Try.underlying3 (hval 1 3 v1 rfl rfl) h1
  exact (packFills_law a b W _ (fun _ h => h)).law (fun _ _ h => h)
theorem packFills_holds : Rows.PackFillsSaid :=
  OpenClaim.holds_of_wide 3 Try.f3 rfl rfl rfl rfl rfl rfl rfl ⟨rfl, rfl, rfl, rfl, rfl⟩ rfl rfl rfl rfl rfl (by kernel_rfl) Try.func3 (by kernel_rfl)
    (of_decide_eq_true (by kernel_rfl)) (by unfold Func.isWrapper; first | (rw [if_pos (by decide +kernel)]; kernel_rfl) | (rw [if_neg (by decide +kernel)]; exact ⟨rfl, rfl⟩))
    (fun os started H enc _ => packFills_lifted os started H enc)
#print axioms packFills_holds
end Go.Proofs.Ytcpodeodgpjbiaa
