/- Arguments of the link's laws, opened. -/
import Derived.Test.YtgcpoehchohleaaLinkE
import Derived.Test.YtgcpoehchohleaaLibU
import Derived.Test.YtgcpoehchohleaaPackO
namespace Go.Proofs.Ytgcpoehchohleaa
open Go.RowKit Go.BK

section
variable {H : Type} {enc : TypeId × Value → H} {W : World}
theorem okWide_struct {P : Program} {t : TypeId} {fs : Array Field} {base : Nat} {v : Value} (ht : P.underlying t = some (.struct fs)) (h : Value.okWide P W .any base t v) : ∃ cs, v = .agg cs := by
  unfold Value.okWide at h
  rw [ht] at h
  obtain ⟨cs, h, _⟩ := h
  exact ⟨cs, h⟩
def saidC (x : Said) : List Value := [i64 x.p, i64 x.n, i64 x.s, str x.t]
theorem opens_said : Opens enc Try.prog W 23 saidC (fun x => (x.p ≤ 9223372036854775807 ∧ x.n ≤ 9223372036854775807) ∧ x.s ≤ 9223372036854775807 ∧ x.t.length ≤ 140737488351232) :=
  (Opens.struct Try.underlying23 (by kernel_rfl) (FO.cons (off' := 1) (Opens.int Try.underlying3) (by kernel_rfl) (by kernel_rfl) (FO.cons (off' := 2) (Opens.int Try.underlying3) (by kernel_rfl) (by kernel_rfl) (FO.cons (off' := 3) (Opens.int Try.underlying3) (by kernel_rfl) (by kernel_rfl) (FO.cons (off' := 4) (Opens.str Try.underlying9) (by kernel_rfl) (by kernel_rfl) FO.nil))))).map
    (fun p => Said.mk p.1 p.2.1 p.2.2.1 p.2.2.2.1) (fun _ _ => rfl) (fun _ h => ⟨⟨(wf_i64 h.1).2, (wf_i64 h.2.1).2⟩, (wf_i64 h.2.2.1).2, h.2.2.2.1⟩)
theorem opens_come : Opens enc Try.prog W 38 comeC Come.ok :=
  (Opens.struct Try.underlying38 (by kernel_rfl) (FO.cons (off' := 1) (Opens.int Try.underlying3) (by kernel_rfl) (by kernel_rfl) (FO.cons (off' := 2) (Opens.str Try.underlying9) (by kernel_rfl) (by kernel_rfl) FO.nil))).map
    (fun p => Come.mk p.1 p.2.1) (fun _ _ => rfl) (fun _ h => ⟨(wf_i64 h.1).2, h.2.1⟩)
theorem come_room {l : List Come} (h3 : l.length * Try.prog.bytesOf 38 ≤ 140737488351232) : l.length ≤ 8796093022208 := by
  have hb : Try.prog.bytesOf 38 = 24 := by kernel_rfl
  rw [hb] at h3
  omega
end
end Go.Proofs.Ytgcpoehchohleaa
