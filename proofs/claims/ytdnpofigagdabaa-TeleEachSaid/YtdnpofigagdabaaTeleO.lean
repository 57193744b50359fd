/- Arguments of tele's laws, opened. -/
import Derived.Test.YtdnpofigagdabaaTeleG
import Derived.Test.YtdnpofigagdabaaLibU
import Derived.Test.YtdnpofigagdabaaPackO
namespace Go.Proofs.Ytdnpofigagdabaa
open Go.RowKit Go.BK

section
variable {H : Type} {enc : TypeId × Value → H} {W : World}
theorem okWide_struct {P : Program} {t : TypeId} {fs : Array Field} {base : Nat} {v : Value} (ht : P.underlying t = some (.struct fs)) (h : Value.okWide P W .any base t v) : ∃ cs, v = .agg cs := by
  unfold Value.okWide at h
  rw [ht] at h
  obtain ⟨cs, h, _⟩ := h
  exact ⟨cs, h⟩
def RowInt (W : World) (v : Value) (l : List Int) : Prop := Sees W (fun _ => False) (.row 1 v l.length (l.map i64)) ∧ l.length ≤ 17592186044416
theorem opens_ints : Opens enc Try.prog W 25 (fun p : Value × List Int => [p.1]) (fun p => RowInt W p.1 p.2) := by
  refine (Opens.slice (sz := 1) Try.underlying25 (by kernel_rfl) (by decide) (fun _ => rfl) (Opens.int Try.underlying3)).map id (fun _ _ => rfl) ?_
  rintro ⟨v, l⟩ ⟨h1, _, h3⟩
  have hb : Try.prog.bytesOf 3 = 8 := by kernel_rfl
  rw [hb] at h3
  have h3' : l.length * 8 ≤ 140737488351232 := h3
  refine ⟨?_, by show l.length ≤ _; omega⟩
  have := flat_one (fun a : Int => i64 a) l
  show Sees W (fun _ => False) (.row 1 v l.length (l.map i64))
  rw [show l.map i64 = l.flatMap fun a => [i64 a] from this.symm]
  exact h1
theorem opens_shape : Opens enc Try.prog W 33 (fun x : Q4 => [x.a, x.b, x.y, x.d]) (fun x => x.Seen W (fun _ => False)) :=
  (Opens.struct Try.underlying33 (by kernel_rfl) (FO.cons (off' := 1) opens_ints (by kernel_rfl) (by kernel_rfl) (FO.cons (off' := 2) opens_ints (by kernel_rfl) (by kernel_rfl) (FO.cons (off' := 3) opens_ints (by kernel_rfl) (by kernel_rfl) (FO.cons (off' := 4) opens_ints (by kernel_rfl) (by kernel_rfl) FO.nil))))).map
    (fun p => Q4.mk p.1.1 p.2.1.1 p.2.2.1.1 p.2.2.2.1.1 p.1.2 p.2.1.2 p.2.2.1.2 p.2.2.2.1.2) (fun _ _ => rfl) (fun _ h => ⟨h.1.1, h.2.1.1, h.2.2.1.1, h.2.2.2.1.1, h.1.2, h.2.1.2, h.2.2.1.2, h.2.2.2.1.2⟩)
theorem opens_status : Opens enc Try.prog W 44 (fun x : Q4 => [x.a, x.b, x.y, x.d]) (fun x => x.Seen W (fun _ => False)) :=
  (Opens.struct Try.underlying44 (by kernel_rfl) (FO.cons (off' := 1) opens_ints (by kernel_rfl) (by kernel_rfl) (FO.cons (off' := 2) opens_ints (by kernel_rfl) (by kernel_rfl) (FO.cons (off' := 3) opens_ints (by kernel_rfl) (by kernel_rfl) (FO.cons (off' := 4) opens_ints (by kernel_rfl) (by kernel_rfl) FO.nil))))).map
    (fun p => Q4.mk p.1.1 p.2.1.1 p.2.2.1.1 p.2.2.2.1.1 p.1.2 p.2.1.2 p.2.2.1.2 p.2.2.2.1.2) (fun _ _ => rfl) (fun _ h => ⟨h.1.1, h.2.1.1, h.2.2.1.1, h.2.2.2.1.1, h.1.2, h.2.1.2, h.2.2.1.2, h.2.2.2.1.2⟩)
theorem opens_orders : Opens enc Try.prog W 46 (fun x : Q3 => [x.a, x.b, x.y]) (fun x => x.Seen W (fun _ => False)) :=
  (Opens.struct Try.underlying46 (by kernel_rfl) (FO.cons (off' := 1) opens_ints (by kernel_rfl) (by kernel_rfl) (FO.cons (off' := 2) opens_ints (by kernel_rfl) (by kernel_rfl) (FO.cons (off' := 3) opens_ints (by kernel_rfl) (by kernel_rfl) FO.nil)))).map
    (fun p => Q3.mk p.1.1 p.2.1.1 p.2.2.1.1 p.1.2 p.2.1.2 p.2.2.1.2) (fun _ _ => rfl) (fun _ h => ⟨h.1.1, h.2.1.1, h.2.2.1.1, h.1.2, h.2.1.2, h.2.2.1.2⟩)
theorem opens_block : Opens enc Try.prog W 48 (fun x : Int × Int × Int => [i64 x.1, i64 x.2.1, i64 x.2.2]) (fun x => x.1 ≤ 9223372036854775807 ∧ x.2.1 ≤ 9223372036854775807 ∧ x.2.2 ≤ 9223372036854775807) :=
  (Opens.struct Try.underlying48 (by kernel_rfl) (FO.cons (off' := 1) (Opens.int Try.underlying3) (by kernel_rfl) (by kernel_rfl) (FO.cons (off' := 2) (Opens.int Try.underlying3) (by kernel_rfl) (by kernel_rfl) (FO.cons (off' := 3) (Opens.int Try.underlying3) (by kernel_rfl) (by kernel_rfl) FO.nil)))).map
    (fun p => (p.1, p.2.1, p.2.2.1)) (fun _ _ => rfl) (fun _ h => ⟨(wf_i64 h.1).2, (wf_i64 h.2.1).2, (wf_i64 h.2.2.1).2⟩)
structure Told where
  s : Q4
  o : Q3
  x : Int
  y : Int
  z : Int
def Told.Ok (t : Told) (W : World) : Prop := t.s.Seen W (fun _ => False) ∧ t.o.Seen W (fun _ => False) ∧ t.x ≤ 9223372036854775807 ∧ t.y ≤ 9223372036854775807 ∧ t.z ≤ 9223372036854775807
theorem opens_told : Opens enc Try.prog W 50 (fun t : Told => [t.s.a, t.s.b, t.s.y, t.s.d, t.o.a, t.o.b, t.o.y, i64 t.x, i64 t.y, i64 t.z]) (fun t => t.Ok W) :=
  (Opens.struct Try.underlying50 (by kernel_rfl) (FO.cons (off' := 4) opens_status (by kernel_rfl) (by kernel_rfl) (FO.cons (off' := 7) opens_orders (by kernel_rfl) (by kernel_rfl) (FO.cons (off' := 10) opens_block (by kernel_rfl) (by kernel_rfl) FO.nil)))).map
    (fun p => Told.mk p.1 p.2.1 p.2.2.1.1 p.2.2.1.2.1 p.2.2.1.2.2) (fun _ _ => rfl) (fun _ h => ⟨h.1, h.2.1, h.2.2.1.1, h.2.2.1.2.1, h.2.2.1.2.2⟩)
end
end Go.Proofs.Ytdnpofigagdabaa
