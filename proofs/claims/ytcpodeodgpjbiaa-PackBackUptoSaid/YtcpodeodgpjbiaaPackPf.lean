/- PackWrites holds for every input of bulk at most 1048576: a writer's bytes, and its first error, are what the document says, thing by thing. Condition: the bulk of the second form. -/
import Derived.Test.YtcpodeodgpjbiaaPackO
import Derived.Test.YtcpodeodgpjbiaaPackR
import Derived.Test.YtcpodeodgpjbiaaLibU
namespace Go.Proofs.Ytcpodeodgpjbiaa
open Go.ChangeShapes Go.WideShapes Go.ChangeAt Go.RowKit Go.BK

theorem opensU_item {H : Type} {enc : TypeId × Value → H} {W : World} : OpensU enc Try.prog W 36 itemC (fun i => i.n ≤ 9223372036854775807) (fun i => i.s.length + 1) :=
  (OpensU.struct Try.underlying36 (by kernel_rfl) (FOU.cons (OpensU.int Try.underlying3) rfl rfl (FOU.cons (OpensU.int Try.underlying3) rfl rfl (FOU.cons (OpensU.str Try.underlying9) rfl rfl FOU.nil)))).map
    (fun p => Item.mk p.1 p.2.1 p.2.2.1) (fun _ _ => rfl) (fun _ h => (wf_i64 h.2.1).2) (fun _ _ => by simp only []; omega)
theorem items_small : ∀ {xs : List Item} {B : Nat}, (xs.map fun i => i.s.length + 1).sum ≤ B → (xs.map Item.sz).sum ≤ 5 * B ∧ xs.length ≤ B ∧ ∀ i ∈ xs, i.s.length ≤ B := by
  intro xs
  induction xs with
  | nil => intro B _; exact ⟨by simp, by simp, fun i h => by cases h⟩
  | cons x r ih =>
    intro B h
    simp only [List.map_cons, List.sum_cons] at h
    obtain ⟨h1, h2, h3⟩ := ih (B := B - (x.s.length + 1)) (by omega)
    refine ⟨by simp only [List.map_cons, List.sum_cons, Item.sz]; omega, by simp only [List.length_cons]; omega, fun i hi => ?_⟩
    rcases List.mem_cons.1 hi with rfl | hi
    · omega
    · have := h3 i hi; omega
set_option maxRecDepth 100000 in
theorem packWrites_lifted (os : Os) (started : os.Started) (H : Type) (enc : TypeId × Value → H) (F : Stop.Interp) :
    ReturnsInHanded {} Try.checked os 4 .any ((Rows.OpenSpec.upto Rows.packWritesSpec).pre6 enc Try.prog Try.f4 Rows.packWritesUptoRow.domain false) (((Rows.OpenSpec.upto Rows.packWritesSpec).at F).post enc Try.prog Try.f4 false true false false) := by
  refine law_liftedU (C := Try.checked) (s := Rows.packWritesSpec) (tb := 4) Try.own started (by kernel_rfl) Try.func4 rfl Try.underlying4 rfl Try.laidOut (by kernel_rfl) (by intro ds h; match ds, h with | [d1, d2], _ => rfl)
    (OpenSpec.witness (enc := enc) (C := Try.checked) (s := Rows.OpenSpec.upto Rows.packWritesSpec) (k := Rows.uptoSmall) rfl false ⟨#[], #[.int .i64 0, .slice none 0 0], []⟩ 8 (by kernel_rfl) (by kernel_rfl) (by kernel_rfl)
      (x := ([.lit (.int .i64 0), .nil], [], [])) (by kernel_rfl) rfl (by kernel_rfl)) ?_
  intro W base args ds p hval hA0 hk
  have hA : DataW.TrodAll enc Try.prog W 0 (fun _ => true) true Try.f4.params.toList args.toList ds p := hA0
  rw [Try.params4] at hA hval
  clear hA0
  obtain ⟨v0, v1, d0, d1, p0, p1, rfl, rfl, rfl, h0, h1⟩ := trodAll_two hA
  obtain ⟨n, rfl, rfl, rfl, wn⟩ := open_int Try.underlying3 (hval 0 3 v0 rfl rfl) h0
  obtain ⟨xs, hx, hq, hb⟩ := argU_slice (sz := 3) Try.underlying32 (by kernel_rfl) (by decide) (fun _ => rfl) opensU_item (hval 1 32 v1 rfl rfl) h1
  simp only [Rows.uptoBulkAll, Rows.uptoBulk] at hk
  obtain ⟨h2, h3, h4⟩ := items_small (xs := xs) (B := 1048576) (by omega)
  exact (packWrites_law n v1 xs W _ (fun _ h => h) hx (wf_i64 wn).2 (by omega) (by omega) (fun i hi => ⟨Nat.le_trans (h4 i hi) (by decide), hq i hi⟩)).law (fun _ _ h => h)
theorem packWrites_holds : Rows.PackWritesUptoSaid :=
  OpenClaim.holds_of_cond 4 Try.f4 rfl rfl rfl rfl rfl rfl rfl ⟨rfl, rfl, rfl, rfl, rfl⟩ rfl rfl rfl rfl rfl (by kernel_rfl) Try.func4 (by kernel_rfl)
    (of_decide_eq_true (by kernel_rfl)) (by unfold Func.isWrapper; first | (rw [if_pos (by decide +kernel)]; kernel_rfl) | (rw [if_neg (by decide +kernel)]; exact ⟨rfl, rfl⟩))
    (fun os started H enc _ F => packWrites_lifted os started H enc F)
#print axioms packWrites_holds
end Go.Proofs.Ytcpodeodgpjbiaa
