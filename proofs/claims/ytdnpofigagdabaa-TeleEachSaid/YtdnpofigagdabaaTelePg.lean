/- TeleEach holds for every input: every section, point, crossing and signal of a station is told by just one controller, its own. No condition. -/
import Derived.Test.YtdnpofigagdabaaTeleY
import Derived.Test.YtdnpofigagdabaaTeleX
namespace Go.Proofs.Ytdnpofigagdabaa
open Go.ChangeShapes Go.WideShapes Go.ChangeAt Go.RowKit Go.BK

set_option maxRecDepth 100000 in
theorem teleEach_lifted (os : Os) (started : os.Started) (H : Type) (enc : TypeId × Value → H) :
    ReturnsInHanded {} Try.checked os 4 .any (Rows.teleEachSpec.pre6 enc Try.prog Try.f4 Rows.teleEachRow.domain false) (Rows.teleEachSpec.post enc Try.prog Try.f4 false true false false) := by
  refine law_lifted (C := Try.checked) (s := Rows.teleEachSpec) (tb := 4) Try.own started (by kernel_rfl) Try.func4 rfl Try.underlying4 rfl Try.laidOut (by kernel_rfl) (by intro ds h; match ds, h with | [d1], _ => rfl)
    (ChangeSpec.witness6 (enc := enc) (C := Try.checked) false ⟨#[], #[.agg #[.slice none 0 0, .slice none 0 0, .slice none 0 0, .slice none 0 0, .slice none 0 0, .int .i64 0, .int .i64 0, .int .i64 0, .int .i64 0]], []⟩ 8 (by kernel_rfl) (by kernel_rfl) (by kernel_rfl) (by kernel_rfl)) ?_
  intro W base args ds p hval hA0 hsz0
  have hA : DataW.TrodAll enc Try.prog W 0 (fun _ => true) true Try.f4.params.toList args.toList ds p := hA0
  have hsz : (DataW.weightsEach Try.prog Try.f4.params.toList ds).all (· ≤ reachBytes) = true := hsz0
  rw [Try.params4] at hA hsz hval
  clear hA0 hsz0
  obtain ⟨v0, d0, rfl, rfl, h0⟩ := trodAll_one hA
  obtain ⟨c, rfl, hc⟩ := arg_agg (j := 0) opens_config (okWide_struct Try.underlying30 (hval 0 30 v0 rfl rfl)) h0 hsz rfl rfl
  exact (teleEach_law c W _ (fun _ h => h) hc).law (fun _ _ h => h)
theorem teleEach_holds : Rows.TeleEachSaid :=
  OpenClaim.holds_of_wide 4 Try.f4 rfl rfl rfl rfl rfl rfl rfl ⟨rfl, rfl, rfl, rfl, rfl⟩ rfl rfl rfl rfl rfl (by kernel_rfl) Try.func4 (by kernel_rfl)
    (of_decide_eq_true (by kernel_rfl)) (by unfold Func.isWrapper; first | (rw [if_pos (by decide +kernel)]; kernel_rfl) | (rw [if_neg (by decide +kernel)]; exact ⟨rfl, rfl⟩))
    (fun os started H enc _ => teleEach_lifted os started H enc)
#print axioms teleEach_holds
end Go.Proofs.Ytdnpofigagdabaa
