/- LinkBytes holds for every input: telegrams are made, and read, byte for byte as the document says. No condition. -/
import Derived.Test.YtgcpoehchohleaaLinkO
namespace Go.Proofs.Ytgcpoehchohleaa
open Go.ChangeShapes Go.WideShapes Go.ChangeAt Go.RowKit Go.BK

set_option maxRecDepth 100000 in
theorem linkBytes_lifted (os : Os) (started : os.Started) (H : Type) (enc : TypeId × Value → H) :
    ReturnsInHanded {} Try.checked os 3 .any (Rows.linkBytesSpec.pre6 enc Try.prog Try.f3 Rows.linkBytesRow.domain false) (Rows.linkBytesSpec.post enc Try.prog Try.f3 false true false false) := by
  refine law_lifted (C := Try.checked) (s := Rows.linkBytesSpec) (tb := 4) Try.own started (by kernel_rfl) Try.func3 rfl Try.underlying4 rfl Try.laidOut (by kernel_rfl) (by intro ds h; match ds, h with | [d1, d2], _ => rfl)
    (ChangeSpec.witness6 (enc := enc) (C := Try.checked) false ⟨#[], #[.agg #[.int .i64 0, .int .i64 0, .int .i64 0, .string ⟨#[]⟩], .string ⟨#[]⟩], []⟩ 8 (by kernel_rfl) (by kernel_rfl) (by kernel_rfl) (by kernel_rfl)) ?_
  intro W base args ds p hval hA0 hsz0
  have hA : DataW.TrodAll enc Try.prog W 0 (fun _ => true) true Try.f3.params.toList args.toList ds p := hA0
  have hsz : (DataW.weightsEach Try.prog Try.f3.params.toList ds).all (· ≤ reachBytes) = true := hsz0
  rw [Try.params3] at hA hsz hval
  clear hA0 hsz0
  obtain ⟨v0, v1, d0, d1, p0, p1, rfl, rfl, rfl, h0, h1⟩ := trodAll_two hA
  obtain ⟨x, rfl, k1, k2⟩ := arg_agg (j := 0) opens_said (okWide_struct Try.underlying23 (hval 0 23 v0 rfl rfl)) h0 hsz rfl rfl
  obtain ⟨l, rfl, hl⟩ := arg_str (j := 1) Try.underlying9 (hval 1 9 v1 rfl rfl) h1 hsz rfl rfl
  exact (linkBytes_law x l W _ (fun _ h => h) k1.1 k1.2 k2.1 (by have := k2.2; omega) (by omega)).law (fun _ _ h => h)
theorem linkBytes_holds : Rows.LinkBytesSaid :=
  OpenClaim.holds_of_wide 3 Try.f3 rfl rfl rfl rfl rfl rfl rfl ⟨rfl, rfl, rfl, rfl, rfl⟩ rfl rfl rfl rfl rfl (by kernel_rfl) Try.func3 (by kernel_rfl)
    (of_decide_eq_true (by kernel_rfl)) (by unfold Func.isWrapper; first | (rw [if_pos (by decide +kernel)]; kernel_rfl) | (rw [if_neg (by decide +kernel)]; exact ⟨rfl, rfl⟩))
    (fun os started H enc _ => linkBytes_lifted os started H enc)
#print axioms linkBytes_holds
end Go.Proofs.Ytgcpoehchohleaa
