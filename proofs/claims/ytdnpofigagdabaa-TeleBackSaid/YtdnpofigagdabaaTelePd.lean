/- TeleBack holds for every input: what is right comes back from its payload, and no text is the payload of two kinds. No condition. -/
import Derived.Test.YtdnpofigagdabaaTeleR
import Derived.Test.YtdnpofigagdabaaTeleO
namespace Go.Proofs.Ytdnpofigagdabaa
open Go.ChangeShapes Go.WideShapes Go.ChangeAt Go.RowKit Go.BK

set_option maxRecDepth 100000 in
theorem teleBack_lifted (os : Os) (started : os.Started) (H : Type) (enc : TypeId × Value → H) :
    ReturnsInHanded {} Try.checked os 6 .any (Rows.teleBackSpec.pre6 enc Try.prog Try.f6 Rows.teleBackRow.domain false) (Rows.teleBackSpec.post enc Try.prog Try.f6 false true false false) := by
  refine law_lifted (C := Try.checked) (s := Rows.teleBackSpec) (tb := 4) Try.own started (by kernel_rfl) Try.func6 rfl Try.underlying4 rfl Try.laidOut (by kernel_rfl) (by intro ds h; match ds, h with | [d1, d2, d3], _ => rfl)
    (ChangeSpec.witness6 (enc := enc) (C := Try.checked) false ⟨#[], #[.agg #[.slice none 0 0, .slice none 0 0, .slice none 0 0, .slice none 0 0], .agg #[.slice none 0 0, .slice none 0 0, .slice none 0 0, .slice none 0 0, .slice none 0 0, .slice none 0 0, .slice none 0 0, .int .i64 0, .int .i64 0, .int .i64 0], .string ⟨#[]⟩], []⟩ 8 (by kernel_rfl) (by kernel_rfl) (by kernel_rfl) (by kernel_rfl)) ?_
  intro W base args ds p hval hA0 hsz0
  have hA : DataW.TrodAll enc Try.prog W 0 (fun _ => true) true Try.f6.params.toList args.toList ds p := hA0
  have hsz : (DataW.weightsEach Try.prog Try.f6.params.toList ds).all (· ≤ reachBytes) = true := hsz0
  rw [Try.params6] at hA hsz hval
  clear hA0 hsz0
  obtain ⟨v0, v1, v2, d0, d1, d2, p0, p1, p2, rfl, rfl, rfl, h0, h1, h2⟩ := trodAll_three hA
  obtain ⟨h, rfl, hh⟩ := arg_agg (j := 0) opens_shape (okWide_struct Try.underlying33 (hval 0 33 v0 rfl rfl)) h0 hsz rfl rfl
  obtain ⟨t, rfl, ht⟩ := arg_agg (j := 1) opens_told (okWide_struct Try.underlying50 (hval 1 50 v1 rfl rfl)) h1 hsz rfl rfl
  obtain ⟨l, rfl, hl⟩ := arg_str (j := 2) Try.underlying9 (hval 2 9 v2 rfl rfl) h2 hsz rfl rfl
  exact (teleBack_law h t.s t.o t.x t.y t.z l W _ (fun _ h => h) hh ht.1 ht.2.1 (by omega)).law (fun _ _ h => h)
theorem teleBack_holds : Rows.TeleBackSaid :=
  OpenClaim.holds_of_wide 6 Try.f6 rfl rfl rfl rfl rfl rfl rfl ⟨rfl, rfl, rfl, rfl, rfl⟩ rfl rfl rfl rfl rfl (by kernel_rfl) Try.func6 (by kernel_rfl)
    (of_decide_eq_true (by kernel_rfl)) (by unfold Func.isWrapper; first | (rw [if_pos (by decide +kernel)]; kernel_rfl) | (rw [if_neg (by decide +kernel)]; exact ⟨rfl, rfl⟩))
    (fun os started H enc _ => teleBack_lifted os started H enc)
#print axioms teleBack_holds
end Go.Proofs.Ytdnpofigagdabaa
