/- SealExact holds for every input of bulk at most 1048576: sums, frames and bodies are what the document says. Condition: the bulk of the second form. -/
import Derived.Test.YtecfagifkpgedaaSealPf
namespace Go.Proofs.Ytecfagifkpgedaa
open Go.ChangeShapes Go.WideShapes Go.ChangeAt Go.RowKit Go.BK

set_option maxRecDepth 100000 in
theorem sealExact_lifted (os : Os) (started : os.Started) (H : Type) (enc : TypeId × Value → H) (F : Stop.Interp) :
    ReturnsInHanded {} Try.checked os 3 .any ((Rows.OpenSpec.upto Rows.sealExactSpec).pre6 enc Try.prog Try.f3 Rows.sealExactUptoRow.domain false) (((Rows.OpenSpec.upto Rows.sealExactSpec).at F).post enc Try.prog Try.f3 false true false false) := by
  refine law_liftedU (C := Try.checked) (s := Rows.sealExactSpec) (tb := 4) Try.own started (by kernel_rfl) Try.func3 rfl Try.underlying4 rfl Try.laidOut (by kernel_rfl) (by intro ds h; match ds, h with | [d1, d2, d3], _ => rfl)
    (OpenSpec.witness (enc := enc) (C := Try.checked) (s := Rows.OpenSpec.upto Rows.sealExactSpec) (k := Rows.uptoSmall) rfl false ⟨#[], #[.slice none 0 0, .string ⟨#[]⟩, .int .i64 0], []⟩ 8 (by kernel_rfl) (by kernel_rfl) (by kernel_rfl)
      (x := ([.nil, .lit (.string []), .lit (.int .i64 0)], [], [])) (by kernel_rfl) rfl (by kernel_rfl)) ?_
  intro W base args ds p hval hA0 hk
  have hA : DataW.TrodAll enc Try.prog W 0 (fun _ => true) true Try.f3.params.toList args.toList ds p := hA0
  rw [Try.params3] at hA hval
  clear hA0
  obtain ⟨v0, v1, v2, d0, d1, d2, p0, p1, p2, rfl, rfl, rfl, h0, h1, h2⟩ := trodAll_three hA
  obtain ⟨xs, hx, _, hb⟩ := argU_slice (sz := 1) Try.underlying22 (by kernel_rfl) (by decide) (fun _ => rfl) (OpensU.str Try.underlying9) (hval 0 22 v0 rfl rfl) h0
  obtain ⟨l, rfl, hl⟩ := argU_str Try.underlying9 (hval 1 9 v1 rfl rfl) h1
  obtain ⟨a, rfl, rfl, rfl, _⟩ := open_int Try.underlying3 (hval 2 3 v2 rfl rfl) h2
  rw [flat_one] at hx
  simp only [Rows.uptoBulkAll] at hk
  obtain ⟨h3, _⟩ := texts_small (xs := xs) (B := 1048576) (by omega)
  exact (sealExact_law v0 xs l a W _ (fun _ h => h) hx (by omega) h3 (by omega)).law (fun _ _ h => h)
theorem sealExact_holds : Rows.SealExactUptoSaid :=
  OpenClaim.holds_of_cond 3 Try.f3 rfl rfl rfl rfl rfl rfl rfl ⟨rfl, rfl, rfl, rfl, rfl⟩ rfl rfl rfl rfl rfl (by kernel_rfl) Try.func3 (by kernel_rfl)
    (of_decide_eq_true (by kernel_rfl)) (by unfold Func.isWrapper; first | (rw [if_pos (by decide +kernel)]; kernel_rfl) | (rw [if_neg (by decide +kernel)]; exact ⟨rfl, rfl⟩))
    (fun os started H enc _ F => sealExact_lifted os started H enc F)
#print axioms sealExact_holds
end Go.Proofs.Ytecfagifkpgedaa
