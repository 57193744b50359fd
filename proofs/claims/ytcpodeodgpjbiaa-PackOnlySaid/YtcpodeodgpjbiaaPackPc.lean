/- PackReads holds for every input: a reader takes from any bytes just what the document says. No condition. -/
import Derived.Test.YtcpodeodgpjbiaaPackO
import Derived.Test.YtcpodeodgpjbiaaPackK
import Derived.Test.YtcpodeodgpjbiaaLibM
namespace Go.Proofs.Ytcpodeodgpjbiaa
open Go.ChangeShapes Go.WideShapes Go.ChangeAt Go.RowKit Go.BK

theorem opens_item {H : Type} {enc : TypeId × Value → H} {W : World} : Opens enc Try.prog W 36 itemC (fun i => i.s.length ≤ 140737488351232) :=
  (Opens.struct Try.underlying36 (by kernel_rfl) (FO.cons (Opens.int Try.underlying3) rfl rfl (FO.cons (Opens.int Try.underlying3) rfl rfl (FO.cons (Opens.str Try.underlying9) rfl rfl FO.nil)))).map
    (fun p => Item.mk p.1 p.2.1 p.2.2.1) (fun _ _ => rfl) (fun _ h => h.2.2.1)
set_option maxRecDepth 100000 in
theorem packReads_lifted (os : Os) (started : os.Started) (H : Type) (enc : TypeId × Value → H) :
    ReturnsInHanded {} Try.checked os 7 .any (Rows.packReadsSpec.pre6 enc Try.prog Try.f7 Rows.packReadsRow.domain false) (Rows.packReadsSpec.post enc Try.prog Try.f7 false true false false) := by
  refine law_lifted (C := Try.checked) (s := Rows.packReadsSpec) (tb := 4) Try.own started (by kernel_rfl) Try.func7 rfl Try.underlying4 rfl Try.laidOut (by kernel_rfl) (by intro ds h; match ds, h with | [d1, d2], _ => rfl)
    (ChangeSpec.witness6 (enc := enc) (C := Try.checked) false ⟨#[], #[.string ⟨#[]⟩, .slice none 0 0], []⟩ 8 (by kernel_rfl) (by kernel_rfl) (by kernel_rfl) (by kernel_rfl)) ?_
  intro W base args ds p hval hA0 hsz0
  have hA : DataW.TrodAll enc Try.prog W 0 (fun _ => true) true Try.f7.params.toList args.toList ds p := hA0
  have hsz : (DataW.weightsEach Try.prog Try.f7.params.toList ds).all (· ≤ reachBytes) = true := hsz0
  rw [Try.params7] at hA hsz hval
  clear hA0 hsz0
  obtain ⟨v0, v1, d0, d1, p0, p1, rfl, rfl, rfl, h0, h1⟩ := trodAll_two hA
  obtain ⟨l, rfl, hl⟩ := arg_str (j := 0) Try.underlying9 (hval 0 9 v0 rfl rfl) h0 hsz rfl rfl
  obtain ⟨xs, hx, _, hb⟩ := arg_slice (j := 1) (sz := 3) Try.underlying32 (by kernel_rfl) (by decide) (fun _ => rfl) opens_item (hval 1 32 v1 rfl rfl) h1 hsz rfl rfl
  have hbb : Try.prog.bytesOf 36 = 32 := by kernel_rfl
  rw [hbb] at hb
  exact (packReads_law l v1 xs W _ (fun _ h => h) hx (by omega) (by omega)).law (fun _ _ h => h)
theorem packReads_holds : Rows.PackReadsSaid :=
  OpenClaim.holds_of_wide 7 Try.f7 rfl rfl rfl rfl rfl rfl rfl ⟨rfl, rfl, rfl, rfl, rfl⟩ rfl rfl rfl rfl rfl (by kernel_rfl) Try.func7 (by kernel_rfl)
    (of_decide_eq_true (by kernel_rfl)) (by unfold Func.isWrapper; first | (rw [if_pos (by decide +kernel)]; kernel_rfl) | (rw [if_neg (by decide +kernel)]; exact ⟨rfl, rfl⟩))
    (fun os started H enc _ => packReads_lifted os started H enc)
#print axioms packReads_holds
end Go.Proofs.Ytcpodeodgpjbiaa
