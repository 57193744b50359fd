/- PackLists holds for every input: calls that take many things write what one thing after the other would, and the lists stay. No condition. -/
import Derived.Test.YtcpodeodgpjbiaaPackO
import Derived.Test.YtcpodeodgpjbiaaPackQ
import Derived.Test.YtcpodeodgpjbiaaLibU
namespace Go.Proofs.Ytcpodeodgpjbiaa
open Go.ChangeShapes Go.WideShapes Go.ChangeAt Go.RowKit Go.BK

set_option maxRecDepth 100000 in
theorem packLists_lifted (os : Os) (started : os.Started) (H : Type) (enc : TypeId × Value → H) :
    ReturnsInHanded {} Try.checked os 5 .any (Rows.packListsSpec.pre6 enc Try.prog Try.f5 Rows.packListsRow.domain false) (Rows.packListsSpec.post enc Try.prog Try.f5 false true false false) := by
  refine law_lifted (C := Try.checked) (s := Rows.packListsSpec) (tb := 4) Try.own started (by kernel_rfl) Try.func5 rfl Try.underlying4 rfl Try.laidOut (by kernel_rfl) (by intro ds h; match ds, h with | [d1, d2], _ => rfl)
    (ChangeSpec.witness6 (enc := enc) (C := Try.checked) false ⟨#[], #[.slice none 0 0, .slice none 0 0], []⟩ 8 (by kernel_rfl) (by kernel_rfl) (by kernel_rfl) (by kernel_rfl)) ?_
  intro W base args ds p hval hA0 hsz0
  have hA : DataW.TrodAll enc Try.prog W 0 (fun _ => true) true Try.f5.params.toList args.toList ds p := hA0
  have hsz : (DataW.weightsEach Try.prog Try.f5.params.toList ds).all (· ≤ reachBytes) = true := hsz0
  rw [Try.params5] at hA hsz hval
  clear hA0 hsz0
  obtain ⟨v0, v1, d0, d1, p0, p1, rfl, rfl, rfl, h0, h1⟩ := trodAll_two hA
  obtain ⟨xs, hx, _, hxb⟩ := arg_slice (j := 0) (sz := 1) Try.underlying43 (by kernel_rfl) (by decide) (fun _ => rfl) (Opens.int Try.underlying3) (hval 0 43 v0 rfl rfl) h0 hsz rfl rfl
  obtain ⟨ts, ht, hts, htb⟩ := arg_slice (j := 1) (sz := 1) Try.underlying44 (by kernel_rfl) (by decide) (fun _ => rfl) (Opens.str Try.underlying9) (hval 1 44 v1 rfl rfl) h1 hsz rfl rfl
  have hb0 : Try.prog.bytesOf 3 = 8 := by kernel_rfl
  have hb1 : Try.prog.bytesOf 9 = 16 := by kernel_rfl
  rw [hb0] at hxb
  rw [hb1] at htb
  rw [flat_one] at hx ht
  exact (packLists_law v0 v1 xs ts W _ (fun _ h => h) hx ht hxb htb hts).law (fun _ _ h => h)
theorem packLists_holds : Rows.PackListsSaid :=
  OpenClaim.holds_of_wide 5 Try.f5 rfl rfl rfl rfl rfl rfl rfl ⟨rfl, rfl, rfl, rfl, rfl⟩ rfl rfl rfl rfl rfl (by kernel_rfl) Try.func5 (by kernel_rfl)
    (of_decide_eq_true (by kernel_rfl)) (by unfold Func.isWrapper; first | (rw [if_pos (by decide +kernel)]; kernel_rfl) | (rw [if_neg (by decide +kernel)]; exact ⟨rfl, rfl⟩))
    (fun os started H enc _ => packLists_lifted os started H enc)
#print axioms packLists_holds
end Go.Proofs.Ytcpodeodgpjbiaa
