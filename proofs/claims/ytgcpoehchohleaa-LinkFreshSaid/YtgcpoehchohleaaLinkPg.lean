/- LinkFresh holds for every input: what a receiver takes was sent between now less age and now, its stamps rise strictly, and nothing is taken twice. No condition. -/
import Derived.Test.YtgcpoehchohleaaLinkO
import Derived.Test.YtgcpoehchohleaaLinkI
namespace Go.Proofs.Ytgcpoehchohleaa
open Go.ChangeShapes Go.WideShapes Go.ChangeAt Go.RowKit Go.BK

set_option maxRecDepth 100000 in
theorem linkFresh_lifted (os : Os) (started : os.Started) (H : Type) (enc : TypeId × Value → H) :
    ReturnsInHanded {} Try.checked os 4 .any (Rows.linkFreshSpec.pre6 enc Try.prog Try.f4 Rows.linkFreshRow.domain false) (Rows.linkFreshSpec.post enc Try.prog Try.f4 false true false false) := by
  refine law_lifted (C := Try.checked) (s := Rows.linkFreshSpec) (tb := 4) Try.own started (by kernel_rfl) Try.func4 rfl Try.underlying4 rfl Try.laidOut (by kernel_rfl) (by intro ds h; match ds, h with | [d1, d2, d3], _ => rfl)
    (ChangeSpec.witness6 (enc := enc) (C := Try.checked) false ⟨#[], #[.int .i64 0, .int .i64 0, .slice none 0 0], []⟩ 8 (by kernel_rfl) (by kernel_rfl) (by kernel_rfl) (by kernel_rfl)) ?_
  intro W base args ds p hval hA0 hsz0
  have hA : DataW.TrodAll enc Try.prog W 0 (fun _ => true) true Try.f4.params.toList args.toList ds p := hA0
  have hsz : (DataW.weightsEach Try.prog Try.f4.params.toList ds).all (· ≤ reachBytes) = true := hsz0
  rw [Try.params4] at hA hsz hval
  clear hA0 hsz0
  obtain ⟨v0, v1, v2, d0, d1, d2, p0, p1, p2, rfl, rfl, rfl, h0, h1, h2⟩ := trodAll_three hA
  obtain ⟨p, rfl, rfl, rfl, _⟩ := open_int Try.underlying3 (hval 0 3 v0 rfl rfl) h0
  obtain ⟨a, rfl, rfl, rfl, _⟩ := open_int Try.underlying3 (hval 1 3 v1 rfl rfl) h1
  obtain ⟨cs, hx, hq, hb⟩ := arg_slice (j := 2) (sz := 2) Try.underlying33 (by kernel_rfl) (by decide) (fun _ => rfl) opens_come (hval 2 33 v2 rfl rfl) h2 hsz rfl rfl
  exact (linkFresh_law p a v2 cs W _ (fun _ h => h) hx (come_room hb) hq).law (fun _ _ h => h)
theorem linkFresh_holds : Rows.LinkFreshSaid :=
  OpenClaim.holds_of_wide 4 Try.f4 rfl rfl rfl rfl rfl rfl rfl ⟨rfl, rfl, rfl, rfl, rfl⟩ rfl rfl rfl rfl rfl (by kernel_rfl) Try.func4 (by kernel_rfl)
    (of_decide_eq_true (by kernel_rfl)) (by unfold Func.isWrapper; first | (rw [if_pos (by decide +kernel)]; kernel_rfl) | (rw [if_neg (by decide +kernel)]; exact ⟨rfl, rfl⟩))
    (fun os started H enc _ => linkFresh_lifted os started H enc)
#print axioms linkFresh_holds
end Go.Proofs.Ytgcpoehchohleaa
