/- CellsKeep holds for every input: what was burnt without a cut is read until its page is erased, whatever is burnt elsewhere, and however often the power goes in between. No condition. -/
import Derived.Test.YtakffjjnogpolaaCellsJ
import Derived.Test.YtakffjjnogpolaaLibU
import Derived.Test.YtakffjjnogpolaaPackO
namespace Go.Proofs.Ytakffjjnogpolaa
open Go.ChangeShapes Go.WideShapes Go.ChangeAt Go.RowKit Go.BK

set_option maxRecDepth 100000 in
theorem cellsKeep_lifted (os : Os) (started : os.Started) (H : Type) (enc : TypeId × Value → H) :
    ReturnsInHanded {} Try.checked os 6 .any (Rows.cellsKeepSpec.pre6 enc Try.prog Try.f6 Rows.cellsKeepRow.domain false) (Rows.cellsKeepSpec.post enc Try.prog Try.f6 false true false false) := by
  refine law_lifted (C := Try.checked) (s := Rows.cellsKeepSpec) (tb := 4) Try.own started (by kernel_rfl) Try.func6 rfl Try.underlying4 rfl Try.laidOut (by kernel_rfl) (by intro ds h; match ds, h with | [d1, d2, d3], _ => rfl)
    (ChangeSpec.witness6 (enc := enc) (C := Try.checked) false ⟨#[], #[.string ⟨#[]⟩, .int .i64 0, .slice none 0 0], []⟩ 8 (by kernel_rfl) (by kernel_rfl) (by kernel_rfl) (by kernel_rfl)) ?_
  intro W base args ds p hval hA0 hsz0
  have hA : DataW.TrodAll enc Try.prog W 0 (fun _ => true) true Try.f6.params.toList args.toList ds p := hA0
  have hsz : (DataW.weightsEach Try.prog Try.f6.params.toList ds).all (· ≤ reachBytes) = true := hsz0
  rw [Try.params6] at hA hsz hval
  clear hA0 hsz0
  obtain ⟨v0, v1, v2, d0, d1, d2, p0, p1, p2, rfl, rfl, rfl, h0, h1, h2⟩ := trodAll_three hA
  obtain ⟨l, rfl, hl⟩ := arg_str (j := 0) Try.underlying9 (hval 0 9 v0 rfl rfl) h0 hsz rfl rfl
  obtain ⟨y, rfl, rfl, rfl, wy⟩ := open_int Try.underlying3 (hval 1 3 v1 rfl rfl) h1
  obtain ⟨xs, hx, _, hb⟩ := arg_slice (j := 2) (sz := 1) Try.underlying57 (by kernel_rfl) (by decide) (fun _ => rfl) (Opens.int Try.underlying3) (hval 2 57 v2 rfl rfl) h2 hsz rfl rfl
  have hb1 : Try.prog.bytesOf 3 = 8 := by kernel_rfl
  rw [hb1] at hb
  rw [flat_one] at hx
  exact (cellsKeep_law l y v2 xs W _ (fun _ h => h) (by omega) hx (by omega)).law (fun _ _ h => h)
theorem cellsKeep_holds : Rows.CellsKeepSaid :=
  OpenClaim.holds_of_wide 6 Try.f6 rfl rfl rfl rfl rfl rfl rfl ⟨rfl, rfl, rfl, rfl, rfl⟩ rfl rfl rfl rfl rfl (by kernel_rfl) Try.func6 (by kernel_rfl)
    (of_decide_eq_true (by kernel_rfl)) (by unfold Func.isWrapper; first | (rw [if_pos (by decide +kernel)]; kernel_rfl) | (rw [if_neg (by decide +kernel)]; exact ⟨rfl, rfl⟩))
    (fun os started H enc _ => cellsKeep_lifted os started H enc)
#print axioms cellsKeep_holds
end Go.Proofs.Ytakffjjnogpolaa
