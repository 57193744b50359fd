/- DeskBack holds for every input: commands and replies come back from their bytes, and no text is the bytes of a command and of a reply. No condition. -/
import Derived.Test.YtehgfhjocfaciaaDeskO
import Derived.Test.YtehgfhjocfaciaaDeskQ
namespace Go.Proofs.Ytehgfhjocfaciaa
open Go.ChangeShapes Go.WideShapes Go.ChangeAt Go.RowKit Go.BK

section
variable {H : Type} {enc : TypeId × Value → H} {W : World}
theorem opens_rep : Opens enc Try.prog W 46 repC (fun _ => True) :=
  (Opens.struct Try.underlying46 (by kernel_rfl) (FO.cons (off' := 1) (Opens.int Try.underlying26) (by kernel_rfl) (by kernel_rfl) (FO.cons (off' := 2) (Opens.int Try.underlying3) (by kernel_rfl) (by kernel_rfl) FO.nil))).map
    (fun p => Rep.mk p.1 p.2.1) (fun _ _ => rfl) (fun _ _ => trivial)
end
set_option maxRecDepth 100000 in
theorem deskBack_lifted (os : Os) (started : os.Started) (H : Type) (enc : TypeId × Value → H) :
    ReturnsInHanded {} Try.checked os 9 .any (Rows.deskBackSpec.pre6 enc Try.prog Try.f9 Rows.deskBackRow.domain false) (Rows.deskBackSpec.post enc Try.prog Try.f9 false true false false) := by
  refine law_lifted (C := Try.checked) (s := Rows.deskBackSpec) (tb := 4) Try.own started (by kernel_rfl) Try.func9 rfl Try.underlying4 rfl Try.laidOut (by kernel_rfl) (by intro ds h; match ds, h with | [d1, d2, d3], _ => rfl)
    (ChangeSpec.witness6 (enc := enc) (C := Try.checked) false ⟨#[], #[.agg #[.int .i64 0, .int .i64 0, .int .i64 0, .int .i64 0], .agg #[.int .i64 0, .int .i64 0], .string ⟨#[]⟩], []⟩ 8 (by kernel_rfl) (by kernel_rfl) (by kernel_rfl) (by kernel_rfl)) ?_
  intro W base args ds p hval hA0 hsz0
  have hA : DataW.TrodAll enc Try.prog W 0 (fun _ => true) true Try.f9.params.toList args.toList ds p := hA0
  have hsz : (DataW.weightsEach Try.prog Try.f9.params.toList ds).all (· ≤ reachBytes) = true := hsz0
  rw [Try.params9] at hA hsz hval
  clear hA0 hsz0
  obtain ⟨v0, v1, v2, d0, d1, d2, p0, p1, p2, rfl, rfl, rfl, h0, h1, h2⟩ := trodAll_three hA
  obtain ⟨c, rfl, _⟩ := arg_agg (j := 0) opens_cmd (okWide_struct Try.underlying24 (hval 0 24 v0 rfl rfl)) h0 hsz rfl rfl
  obtain ⟨r, rfl, _⟩ := arg_agg (j := 1) opens_rep (okWide_struct Try.underlying46 (hval 1 46 v1 rfl rfl)) h1 hsz rfl rfl
  obtain ⟨l, rfl, hl⟩ := arg_str (j := 2) Try.underlying9 (hval 2 9 v2 rfl rfl) h2 hsz rfl rfl
  exact (deskBack_law c r l W _ (fun _ h => h) (by omega)).law (fun _ _ h => h)
theorem deskBack_holds : Rows.DeskBackSaid :=
  OpenClaim.holds_of_wide 9 Try.f9 rfl rfl rfl rfl rfl rfl rfl ⟨rfl, rfl, rfl, rfl, rfl⟩ rfl rfl rfl rfl rfl (by kernel_rfl) Try.func9 (by kernel_rfl)
    (of_decide_eq_true (by kernel_rfl)) (by unfold Func.isWrapper; first | (rw [if_pos (by decide +kernel)]; kernel_rfl) | (rw [if_neg (by decide +kernel)]; exact ⟨rfl, rfl⟩))
    (fun os started H enc _ => deskBack_lifted os started H enc)
#print axioms deskBack_holds
end Go.Proofs.Ytehgfhjocfaciaa
