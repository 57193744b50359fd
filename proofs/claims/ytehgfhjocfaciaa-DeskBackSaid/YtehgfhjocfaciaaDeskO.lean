/- Arguments of the desk's laws, opened. -/
import Derived.Test.YtehgfhjocfaciaaDeskA
import Derived.Test.YtehgfhjocfaciaaLibU
import Derived.Test.YtehgfhjocfaciaaPackO
namespace Go.Proofs.Ytehgfhjocfaciaa
open Go.RowKit Go.BK

section
variable {H : Type} {enc : TypeId × Value → H} {W : World}
theorem okWide_struct {P : Program} {t : TypeId} {fs : Array Field} {base : Nat} {v : Value} (ht : P.underlying t = some (.struct fs)) (h : Value.okWide P W .any base t v) : ∃ cs, v = .agg cs := by
  unfold Value.okWide at h
  rw [ht] at h
  obtain ⟨cs, h, _⟩ := h
  exact ⟨cs, h⟩
theorem opens_ses : Opens enc Try.prog W 31 sesC (fun _ => True) :=
  (Opens.struct Try.underlying31 (by kernel_rfl) (FO.cons (off' := 1) (Opens.int Try.underlying3) (by kernel_rfl) (by kernel_rfl) (FO.cons (off' := 2) (Opens.int Try.underlying3) (by kernel_rfl) (by kernel_rfl) (FO.cons (off' := 3) (Opens.int Try.underlying3) (by kernel_rfl) (by kernel_rfl) (FO.cons (off' := 4) (Opens.int Try.underlying3) (by kernel_rfl) (by kernel_rfl) FO.nil))))).map
    (fun p => Ses.mk p.1 p.2.1 p.2.2.1 p.2.2.2.1) (fun _ _ => rfl) (fun _ _ => trivial)
theorem opens_cmd : Opens enc Try.prog W 24 cmdC (fun _ => True) :=
  (Opens.struct Try.underlying24 (by kernel_rfl) (FO.cons (off' := 1) (Opens.int Try.underlying3) (by kernel_rfl) (by kernel_rfl) (FO.cons (off' := 2) (Opens.int Try.underlying3) (by kernel_rfl) (by kernel_rfl) (FO.cons (off' := 3) (Opens.int Try.underlying3) (by kernel_rfl) (by kernel_rfl) (FO.cons (off' := 4) (Opens.int Try.underlying3) (by kernel_rfl) (by kernel_rfl) FO.nil))))).map
    (fun p => Cmd.mk p.1 p.2.1 p.2.2.1 p.2.2.2.1) (fun _ _ => rfl) (fun _ _ => trivial)
theorem ses_room {l : List Ses} (h3 : l.length * Try.prog.bytesOf 31 ≤ 140737488351232) : l.length ≤ 4398046511104 := by
  have hb : Try.prog.bytesOf 31 = 32 := by kernel_rfl
  rw [hb] at h3
  omega
end
end Go.Proofs.Ytehgfhjocfaciaa
