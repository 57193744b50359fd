/- DeskApart holds for every input: a command of a session leaves all other sessions as they are. No condition. -/
import Derived.Test.YtehgfhjocfaciaaDeskO
namespace Go.Proofs.Ytehgfhjocfaciaa
open Go.ChangeShapes Go.WideShapes Go.ChangeAt Go.RowKit Go.BK

set_option maxRecDepth 100000 in
theorem deskApart_lifted (os : Os) (started : os.Started) (H : Type) (enc : TypeId × Value → H) :
    ReturnsInHanded {} Try.checked os 5 .any (Rows.deskApartSpec.pre6 enc Try.prog Try.f5 Rows.deskApartRow.domain false) (Rows.deskApartSpec.post enc Try.prog Try.f5 false true false false) := by
  refine law_lifted (C := Try.checked) (s := Rows.deskApartSpec) (tb := 4) Try.own started (by kernel_rfl) Try.func5 rfl Try.underlying4 rfl Try.laidOut (by kernel_rfl) (by intro ds h; match ds, h with | [d1, d2, d3], _ => rfl)
    (ChangeSpec.witness6 (enc := enc) (C := Try.checked) false ⟨#[], #[.slice none 0 0, .int .i64 0, .agg #[.int .i64 0, .int .i64 0, .int .i64 0, .int .i64 0]], []⟩ 8 (by kernel_rfl) (by kernel_rfl) (by kernel_rfl) (by kernel_rfl)) ?_
  intro W base args ds p hval hA0 hsz0
  have hA : DataW.TrodAll enc Try.prog W 0 (fun _ => true) true Try.f5.params.toList args.toList ds p := hA0
  have hsz : (DataW.weightsEach Try.prog Try.f5.params.toList ds).all (· ≤ reachBytes) = true := hsz0
  rw [Try.params5] at hA hsz hval
  clear hA0 hsz0
  obtain ⟨v0, v1, v2, d0, d1, d2, p0, p1, p2, rfl, rfl, rfl, h0, h1, h2⟩ := trodAll_three hA
  obtain ⟨ds, hx, _, hb⟩ := arg_slice (j := 0) (sz := 4) Try.underlying22 (by kernel_rfl) (by decide) (fun _ => rfl) opens_ses (hval 0 22 v0 rfl rfl) h0 hsz rfl rfl
  obtain ⟨now, rfl, rfl, rfl, _⟩ := open_int Try.underlying3 (hval 1 3 v1 rfl rfl) h1
  obtain ⟨e, rfl, _⟩ := arg_agg (j := 2) opens_cmd (okWide_struct Try.underlying24 (hval 2 24 v2 rfl rfl)) h2 hsz rfl rfl
  exact (deskApart_law ds v0 now e W _ (fun _ h => h) hx (ses_room hb)).law (fun _ _ h => h)
theorem deskApart_holds : Rows.DeskApartSaid :=
  OpenClaim.holds_of_wide 5 Try.f5 rfl rfl rfl rfl rfl rfl rfl ⟨rfl, rfl, rfl, rfl, rfl⟩ rfl rfl rfl rfl rfl (by kernel_rfl) Try.func5 (by kernel_rfl)
    (of_decide_eq_true (by kernel_rfl)) (by unfold Func.isWrapper; first | (rw [if_pos (by decide +kernel)]; kernel_rfl) | (rw [if_neg (by decide +kernel)]; exact ⟨rfl, rfl⟩))
    (fun os started H enc _ => deskApart_lifted os started H enc)
#print axioms deskApart_holds
end Go.Proofs.Ytehgfhjocfaciaa
