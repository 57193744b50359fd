/- CellsPlay holds for every input of bulk at most 1048576: every row of calls is answered as the document says. Condition: the bulk of the second form. -/
import Derived.Test.YtakffjjnogpolaaCellsS
import Derived.Test.YtakffjjnogpolaaLibU
import Derived.Test.YtakffjjnogpolaaPackO
namespace Go.Proofs.Ytakffjjnogpolaa
open Go.ChangeShapes Go.WideShapes Go.ChangeAt Go.RowKit Go.BK

def opMu (o : Op) : Nat := (o.ps.map fun s => s.length + 1).sum + o.cs.length + 1
structure Op.Seen (o : Op) (w : World) (S : BSet) : Prop where
  parts : Sees w S (.row 1 o.pv o.ps.length (o.ps.map str))
  cuts : Sees w S (.row 2 o.cv o.cs.length (o.cs.flatMap cutC))
theorem opensU_cut {H : Type} {enc : TypeId × Value → H} {W : World} : OpensU enc Try.prog W 43 cutC (fun _ => True) (fun _ => 1) :=
  (OpensU.struct Try.underlying43 (by kernel_rfl) (FOU.cons (OpensU.int Try.underlying3) rfl rfl (FOU.cons (OpensU.int Try.underlying3) rfl rfl FOU.nil))).map
    (fun p => Cut.mk p.1 p.2.1) (fun _ _ => rfl) (fun _ _ => trivial) (fun _ _ => by omega)
theorem sum_one {α : Type} (l : List α) : (l.map fun _ => 1).sum = l.length := by
  induction l with
  | nil => rfl
  | cons x r ih => rw [List.map_cons, List.sum_cons, ih, List.length_cons]; omega
theorem opensU_op {H : Type} {enc : TypeId × Value → H} {W : World} : OpensU enc Try.prog W 51 opC (fun o => o.Seen W (fun _ => False)) opMu :=
  (OpensU.struct Try.underlying51 (by kernel_rfl) (FOU.cons (off' := 1) (OpensU.int Try.underlying3) rfl rfl (FOU.cons (off' := 2) (OpensU.int Try.underlying3) rfl rfl (FOU.cons (off' := 3) (OpensU.int Try.underlying3) rfl rfl (FOU.cons (off' := 4) (OpensU.int Try.underlying3) rfl rfl
    (FOU.cons (off' := 5) (OpensU.slice (sz := 1) Try.underlying48 (by kernel_rfl) (by decide) (fun _ => rfl) (OpensU.str Try.underlying9)) (by kernel_rfl) (by kernel_rfl)
    (FOU.cons (off' := 6) (OpensU.slice (sz := 2) Try.underlying49 (by kernel_rfl) (by decide) (fun _ => rfl) opensU_cut) (by kernel_rfl) (by kernel_rfl) FOU.nil))))))).map
    (fun p => Op.mk p.1 p.2.1 p.2.2.1 p.2.2.2.1 p.2.2.2.2.1.1 p.2.2.2.2.1.2 p.2.2.2.2.2.1.1 p.2.2.2.2.2.1.2) (fun _ _ => rfl)
    (fun p h => ⟨by have := h.2.2.2.2.1.1; rw [flat_one] at this; exact this, h.2.2.2.2.2.1.1⟩)
    (fun p _ => by
      have := sum_one p.2.2.2.2.2.1.2
      unfold opMu
      simp only [] at this ⊢
      omega)
theorem parts_small : ∀ {xs : List (List UInt8)}, xs.flatten.length + xs.length ≤ (xs.map fun s => s.length + 1).sum := by
  intro xs
  induction xs with
  | nil => simp
  | cons x r ih => simp only [List.flatten_cons, List.length_append, List.length_cons, List.map_cons, List.sum_cons]; omega
theorem ops_small : ∀ {xs : List Op} {B : Nat}, (xs.map opMu).sum ≤ B → xs.length ≤ B ∧ ∀ o ∈ xs, opMu o ≤ B := by
  intro xs
  induction xs with
  | nil => intro B _; exact ⟨by simp, fun i h => by cases h⟩
  | cons x r ih =>
    intro B h
    simp only [List.map_cons, List.sum_cons] at h
    have h1 : 1 ≤ opMu x := by unfold opMu; omega
    obtain ⟨h2, h3⟩ := ih (B := B - opMu x) (by omega)
    refine ⟨by simp only [List.length_cons]; omega, fun i hi => ?_⟩
    rcases List.mem_cons.1 hi with rfl | hi
    · omega
    · have := h3 i hi; omega
set_option maxRecDepth 100000 in
theorem cellsPlay_lifted (os : Os) (started : os.Started) (H : Type) (enc : TypeId × Value → H) (F : Stop.Interp) :
    ReturnsInHanded {} Try.checked os 5 .any ((Rows.OpenSpec.upto Rows.cellsPlaySpec).pre6 enc Try.prog Try.f5 Rows.cellsPlayUptoRow.domain false) (((Rows.OpenSpec.upto Rows.cellsPlaySpec).at F).post enc Try.prog Try.f5 false true false false) := by
  refine law_liftedU (C := Try.checked) (s := Rows.cellsPlaySpec) (tb := 4) Try.own started (by kernel_rfl) Try.func5 rfl Try.underlying4 rfl Try.laidOut (by kernel_rfl) (by intro ds h; match ds, h with | [d1], _ => rfl)
    (OpenSpec.witness (enc := enc) (C := Try.checked) (s := Rows.OpenSpec.upto Rows.cellsPlaySpec) (k := Rows.uptoSmall) rfl false ⟨#[], #[.slice none 0 0], []⟩ 8 (by kernel_rfl) (by kernel_rfl) (by kernel_rfl)
      (x := ([.nil], [], [])) (by kernel_rfl) rfl (by kernel_rfl)) ?_
  intro W base args ds p hval hA0 hk
  have hA : DataW.TrodAll enc Try.prog W 0 (fun _ => true) true Try.f5.params.toList args.toList ds p := hA0
  rw [Try.params5] at hA hval
  clear hA0
  obtain ⟨v0, vs, d0, ds0, p0, q0, hargs, rfl, rfl, h0, r0⟩ := trodAll_cons hA
  obtain ⟨rfl, rfl, rfl⟩ := trodAll_nil r0
  obtain rfl : args = #[v0] := by cases args; simp_all
  obtain ⟨xs, hx, hq, hb⟩ := argU_slice (sz := 6) Try.underlying45 (by kernel_rfl) (by decide) (fun _ => rfl) opensU_op (hval 0 45 v0 rfl rfl) h0
  simp only [Rows.uptoBulkAll, Rows.uptoBulk] at hk
  obtain ⟨h2, h3⟩ := ops_small (xs := xs) (B := 1048576) (by omega)
  exact (cellsPlay_law v0 xs W _ (fun _ h => h) hx h2 (fun o ho => by
    have h4 := h3 o ho
    have h5 := parts_small (xs := o.ps)
    unfold opMu at h4
    exact ⟨(hq o ho).parts, (hq o ho).cuts, by omega, by omega, by omega⟩)).law (fun _ _ h => h)
theorem cellsPlay_holds : Rows.CellsPlayUptoSaid :=
  OpenClaim.holds_of_cond 5 Try.f5 rfl rfl rfl rfl rfl rfl rfl ⟨rfl, rfl, rfl, rfl, rfl⟩ rfl rfl rfl rfl rfl (by kernel_rfl) Try.func5 (by kernel_rfl)
    (of_decide_eq_true (by kernel_rfl)) (by unfold Func.isWrapper; first | (rw [if_pos (by decide +kernel)]; kernel_rfl) | (rw [if_neg (by decide +kernel)]; exact ⟨rfl, rfl⟩))
    (fun os started H enc _ F => cellsPlay_lifted os started H enc F)
#print axioms cellsPlay_holds
end Go.Proofs.Ytakffjjnogpolaa
