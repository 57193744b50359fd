/- LinkTwice holds for every input: what a sender sends, a receiver takes each once, in this order, and none of it a second time. No condition. -/
import Derived.Test.YtgcpoehchohleaaLinkO
import Derived.Test.YtgcpoehchohleaaLinkG
namespace Go.Proofs.Ytgcpoehchohleaa
open Go.ChangeShapes Go.WideShapes Go.ChangeAt Go.RowKit Go.BK

set_option maxRecDepth 100000 in
theorem linkTwice_lifted (os : Os) (started : os.Started) (H : Type) (enc : TypeId × Value → H) :
    ReturnsInHanded {} Try.checked os 9 .any (Rows.linkTwiceSpec.pre6 enc Try.prog Try.f9 Rows.linkTwiceRow.domain false) (Rows.linkTwiceSpec.post enc Try.prog Try.f9 false true false false) := by
  refine law_lifted (C := Try.checked) (s := Rows.linkTwiceSpec) (tb := 4) Try.own started (by kernel_rfl) Try.func9 rfl Try.underlying4 rfl Try.laidOut (by kernel_rfl) (by intro ds h; match ds, h with | [d1, d2], _ => rfl)
    (ChangeSpec.witness6 (enc := enc) (C := Try.checked) false ⟨#[], #[.int .i64 0, .slice none 0 0], []⟩ 8 (by kernel_rfl) (by kernel_rfl) (by kernel_rfl) (by kernel_rfl)) ?_
  intro W base args ds p hval hA0 hsz0
  have hA : DataW.TrodAll enc Try.prog W 0 (fun _ => true) true Try.f9.params.toList args.toList ds p := hA0
  have hsz : (DataW.weightsEach Try.prog Try.f9.params.toList ds).all (· ≤ reachBytes) = true := hsz0
  rw [Try.params9] at hA hsz hval
  clear hA0 hsz0
  obtain ⟨v0, v1, d0, d1, p0, p1, rfl, rfl, rfl, h0, h1⟩ := trodAll_two hA
  obtain ⟨x, rfl, rfl, rfl, _⟩ := open_int Try.underlying3 (hval 0 3 v0 rfl rfl) h0
  obtain ⟨ts, ht, hts, htb⟩ := arg_slice (j := 1) (sz := 1) Try.underlying59 (by kernel_rfl) (by decide) (fun _ => rfl) (Opens.str Try.underlying9) (hval 1 59 v1 rfl rfl) h1 hsz rfl rfl
  have hb1 : Try.prog.bytesOf 9 = 16 := by kernel_rfl
  rw [hb1] at htb
  rw [flat_one] at ht
  exact (linkTwice_law x v1 ts W _ (fun _ h => h) ht (by omega)).law (fun _ _ h => h)
theorem linkTwice_holds : Rows.LinkTwiceSaid :=
  OpenClaim.holds_of_wide 9 Try.f9 rfl rfl rfl rfl rfl rfl rfl ⟨rfl, rfl, rfl, rfl, rfl⟩ rfl rfl rfl rfl rfl (by kernel_rfl) Try.func9 (by kernel_rfl)
    (of_decide_eq_true (by kernel_rfl)) (by unfold Func.isWrapper; first | (rw [if_pos (by decide +kernel)]; kernel_rfl) | (rw [if_neg (by decide +kernel)]; exact ⟨rfl, rfl⟩))
    (fun os started H enc _ => linkTwice_lifted os started H enc)
#print axioms linkTwice_holds
end Go.Proofs.Ytgcpoehchohleaa
