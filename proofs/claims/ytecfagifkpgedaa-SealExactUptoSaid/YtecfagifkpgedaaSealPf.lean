/- SealRows holds for every input of bulk at most 1048576: frames that stand one behind the other are found in turn. Condition: the bulk of the second form. -/
import Derived.Test.YtecfagifkpgedaaSealPa
namespace Go.Proofs.Ytecfagifkpgedaa
open Go.ChangeShapes Go.WideShapes Go.ChangeAt Go.RowKit Go.BK

theorem texts_small : ∀ {xs : List (List UInt8)} {B : Nat}, (xs.map fun s => s.length + 1).sum ≤ B → xs.length ≤ B ∧ ∀ s ∈ xs, s.length ≤ B := by
  intro xs
  induction xs with
  | nil => intro B _; exact ⟨by simp, fun i h => by cases h⟩
  | cons x r ih =>
    intro B h
    simp only [List.map_cons, List.sum_cons] at h
    obtain ⟨h2, h3⟩ := ih (B := B - (x.length + 1)) (by omega)
    refine ⟨by simp only [List.length_cons]; omega, fun i hi => ?_⟩
    rcases List.mem_cons.1 hi with rfl | hi
    · omega
    · have := h3 i hi; omega
set_option maxRecDepth 100000 in
theorem sealRows_lifted (os : Os) (started : os.Started) (H : Type) (enc : TypeId × Value → H) (F : Stop.Interp) :
    ReturnsInHanded {} Try.checked os 6 .any ((Rows.OpenSpec.upto Rows.sealRowsSpec).pre6 enc Try.prog Try.f6 Rows.sealRowsUptoRow.domain false) (((Rows.OpenSpec.upto Rows.sealRowsSpec).at F).post enc Try.prog Try.f6 false true false false) := by
  refine law_liftedU (C := Try.checked) (s := Rows.sealRowsSpec) (tb := 4) Try.own started (by kernel_rfl) Try.func6 rfl Try.underlying4 rfl Try.laidOut (by kernel_rfl) (by intro ds h; match ds, h with | [d1], _ => rfl)
    (OpenSpec.witness (enc := enc) (C := Try.checked) (s := Rows.OpenSpec.upto Rows.sealRowsSpec) (k := Rows.uptoSmall) rfl false ⟨#[], #[.slice none 0 0], []⟩ 8 (by kernel_rfl) (by kernel_rfl) (by kernel_rfl)
      (x := ([.nil], [], [])) (by kernel_rfl) rfl (by kernel_rfl)) ?_
  intro W base args ds p hval hA0 hk
  have hA : DataW.TrodAll enc Try.prog W 0 (fun _ => true) true Try.f6.params.toList args.toList ds p := hA0
  rw [Try.params6] at hA hval
  clear hA0
  obtain ⟨v0, vs, d0, ds0, p0, q0, hargs, rfl, rfl, h0, r0⟩ := trodAll_cons hA
  obtain ⟨rfl, rfl, rfl⟩ := trodAll_nil r0
  obtain rfl : args = #[v0] := by cases args; simp_all
  obtain ⟨xs, hx, _, hb⟩ := argU_slice (sz := 1) Try.underlying22 (by kernel_rfl) (by decide) (fun _ => rfl) (OpensU.str Try.underlying9) (hval 0 22 v0 rfl rfl) h0
  rw [flat_one] at hx
  simp only [Rows.uptoBulkAll, Rows.uptoBulk] at hk
  obtain ⟨h2, h3⟩ := texts_small (xs := xs) (B := 1048576) (by omega)
  exact (sealRows_law v0 xs W _ (fun _ h => h) hx (by omega) h2 h3).law (fun _ _ h => h)
theorem sealRows_holds : Rows.SealRowsUptoSaid :=
  OpenClaim.holds_of_cond 6 Try.f6 rfl rfl rfl rfl rfl rfl rfl ⟨rfl, rfl, rfl, rfl, rfl⟩ rfl rfl rfl rfl rfl (by kernel_rfl) Try.func6 (by kernel_rfl)
    (of_decide_eq_true (by kernel_rfl)) (by unfold Func.isWrapper; first | (rw [if_pos (by decide +kernel)]; kernel_rfl) | (rw [if_neg (by decide +kernel)]; exact ⟨rfl, rfl⟩))
    (fun os started H enc _ F => sealRows_lifted os started H enc F)
#print axioms sealRows_holds
end Go.Proofs.Ytecfagifkpgedaa
