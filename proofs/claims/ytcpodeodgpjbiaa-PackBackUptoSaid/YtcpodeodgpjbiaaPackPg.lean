/- PackBack holds for every input of bulk at most 1048576: whatever is written without an error is read again, in the same order, to the end. Condition: the bulk of the second form. -/
import Derived.Test.YtcpodeodgpjbiaaPackS
import Derived.Test.YtcpodeodgpjbiaaPackPf
namespace Go.Proofs.Ytcpodeodgpjbiaa
open Go.ChangeShapes Go.WideShapes Go.ChangeAt Go.RowKit Go.BK

set_option maxRecDepth 100000 in
theorem packBack_lifted (os : Os) (started : os.Started) (H : Type) (enc : TypeId × Value → H) (F : Stop.Interp) :
    ReturnsInHanded {} Try.checked os 9 .any ((Rows.OpenSpec.upto Rows.packBackSpec).pre6 enc Try.prog Try.f9 Rows.packBackUptoRow.domain false) (((Rows.OpenSpec.upto Rows.packBackSpec).at F).post enc Try.prog Try.f9 false true false false) := by
  refine law_liftedU (C := Try.checked) (s := Rows.packBackSpec) (tb := 4) Try.own started (by kernel_rfl) Try.func9 rfl Try.underlying4 rfl Try.laidOut (by kernel_rfl) (by intro ds h; match ds, h with | [d1, d2], _ => rfl)
    (OpenSpec.witness (enc := enc) (C := Try.checked) (s := Rows.OpenSpec.upto Rows.packBackSpec) (k := Rows.uptoSmall) rfl false ⟨#[], #[.int .i64 0, .slice none 0 0], []⟩ 8 (by kernel_rfl) (by kernel_rfl) (by kernel_rfl)
      (x := ([.lit (.int .i64 0), .nil], [], [])) (by kernel_rfl) rfl (by kernel_rfl)) ?_
  intro W base args ds p hval hA0 hk
  have hA : DataW.TrodAll enc Try.prog W 0 (fun _ => true) true Try.f9.params.toList args.toList ds p := hA0
  rw [Try.params9] at hA hval
  clear hA0
  obtain ⟨v0, v1, d0, d1, p0, p1, rfl, rfl, rfl, h0, h1⟩ := trodAll_two hA
  obtain ⟨n, rfl, rfl, rfl, wn⟩ := open_int Try.underlying3 (hval 0 3 v0 rfl rfl) h0
  obtain ⟨xs, hx, hq, hb⟩ := argU_slice (sz := 3) Try.underlying32 (by kernel_rfl) (by decide) (fun _ => rfl) opensU_item (hval 1 32 v1 rfl rfl) h1
  simp only [Rows.uptoBulkAll, Rows.uptoBulk] at hk
  obtain ⟨h2, h3, h4⟩ := items_small (xs := xs) (B := 1048576) (by omega)
  exact (packBack_law n v1 xs W _ (fun _ h => h) hx (wf_i64 wn).2 (by omega) (by omega) (fun i hi => Nat.le_trans (h4 i hi) (by decide))).law (fun _ _ h => h)
theorem packBack_holds : Rows.PackBackUptoSaid :=
  OpenClaim.holds_of_cond 9 Try.f9 rfl rfl rfl rfl rfl rfl rfl ⟨rfl, rfl, rfl, rfl, rfl⟩ rfl rfl rfl rfl rfl (by kernel_rfl) Try.func9 (by kernel_rfl)
    (of_decide_eq_true (by kernel_rfl)) (by unfold Func.isWrapper; first | (rw [if_pos (by decide +kernel)]; kernel_rfl) | (rw [if_neg (by decide +kernel)]; exact ⟨rfl, rfl⟩))
    (fun os started H enc _ F => packBack_lifted os started H enc F)
#print axioms packBack_holds
end Go.Proofs.Ytcpodeodgpjbiaa
