/- A station as an argument, opened. -/
import Derived.Test.YtdnpofigagdabaaTeleT
import Derived.Test.YtdnpofigagdabaaTeleO
namespace Go.Proofs.Ytdnpofigagdabaa
open Go.RowKit Go.BK Go.Deep Go.ChangeShapes Go.WideShapes Go.ChangeAt

section
variable {H : Type} {enc : TypeId × Value → H} {W : World}
/-- A slice of whatever: one cell. -/
theorem opens_any {P : Program} {t e : TypeId} (ht : P.underlying t = some (.slice e)) : Opens enc P W t (fun v : Value => [v]) (fun _ => True) := by
  intro n cs x hx hw
  rcases open_slice ht hx with ⟨h1, h2⟩ | ⟨a, len, cap, m, n', D, Pl, h1, _⟩
  · exact ⟨.slice none 0 0, h1, trivial⟩
  · exact ⟨.slice (some a) len cap, h1, trivial⟩
theorem opens_sec : Opens enc Try.prog W 38 secC (fun _ => True) :=
  (Opens.struct Try.underlying38 (by kernel_rfl) (FO.cons (off' := 1) (Opens.int Try.underlying3) (by kernel_rfl) (by kernel_rfl) (FO.cons (off' := 2) (Opens.int Try.underlying3) (by kernel_rfl) (by kernel_rfl) (FO.cons (off' := 3) (Opens.int Try.underlying3) (by kernel_rfl) (by kernel_rfl) FO.nil)))).map
    (fun p => Sec.mk p.1 p.2.1 p.2.2.1) (fun _ _ => rfl) (fun _ _ => trivial)
theorem opens_sig : Opens enc Try.prog W 40 sigC (fun _ => True) :=
  (Opens.struct Try.underlying40 (by kernel_rfl) (FO.cons (off' := 1) (Opens.int Try.underlying3) (by kernel_rfl) (by kernel_rfl) (FO.cons (off' := 2) (Opens.int Try.underlying3) (by kernel_rfl) (by kernel_rfl) FO.nil))).map
    (fun p => Sig.mk p.1 p.2.1) (fun _ _ => rfl) (fun _ _ => trivial)
theorem opens_secs : Opens enc Try.prog W 22 (fun p : Value × List Sec => [p.1]) (fun p => Sees W (fun _ => False) (.row 3 p.1 p.2.length (p.2.flatMap secC)) ∧ p.2.length ≤ 8796093022208) :=
  (Opens.slice (sz := 3) Try.underlying22 (by kernel_rfl) (by decide) (fun _ => rfl) opens_sec).map id (fun _ _ => rfl) (by
    rintro ⟨v, l⟩ ⟨h1, _, h3⟩
    have hb : Try.prog.bytesOf 38 = 24 := by kernel_rfl
    rw [hb] at h3
    have h3' : l.length * 24 ≤ 140737488351232 := h3
    exact ⟨h1, by show l.length ≤ _; omega⟩)
theorem opens_sigs : Opens enc Try.prog W 24 (fun p : Value × List Sig => [p.1]) (fun p => Sees W (fun _ => False) (.row 2 p.1 p.2.length (p.2.flatMap sigC)) ∧ p.2.length ≤ 8796093022208) :=
  (Opens.slice (sz := 2) Try.underlying24 (by kernel_rfl) (by decide) (fun _ => rfl) opens_sig).map id (fun _ _ => rfl) (by
    rintro ⟨v, l⟩ ⟨h1, _, h3⟩
    have hb : Try.prog.bytesOf 40 = 16 := by kernel_rfl
    rw [hb] at h3
    have h3' : l.length * 16 ≤ 140737488351232 := h3
    exact ⟨h1, by show l.length ≤ _; omega⟩)
theorem opens_timing : Opens enc Try.prog W 28 (fun x : Int × Int × Int × Int => [i64 x.1, i64 x.2.1, i64 x.2.2.1, i64 x.2.2.2]) (fun _ => True) :=
  (Opens.struct Try.underlying28 (by kernel_rfl) (FO.cons (off' := 1) (Opens.int Try.underlying3) (by kernel_rfl) (by kernel_rfl) (FO.cons (off' := 2) (Opens.int Try.underlying3) (by kernel_rfl) (by kernel_rfl) (FO.cons (off' := 3) (Opens.int Try.underlying3) (by kernel_rfl) (by kernel_rfl) (FO.cons (off' := 4) (Opens.int Try.underlying3) (by kernel_rfl) (by kernel_rfl) FO.nil))))).map
    (fun p => (p.1, p.2.1, p.2.2.1, p.2.2.2.1)) (fun _ _ => rfl) (fun _ _ => trivial)
theorem opens_config : Opens enc Try.prog W 30 cfgC (fun c => c.Seen W (fun _ => False)) :=
  (Opens.struct Try.underlying30 (by kernel_rfl) (FO.cons (off' := 1) opens_secs (by kernel_rfl) (by kernel_rfl) (FO.cons (off' := 2) (opens_any Try.underlying23) (by kernel_rfl) (by kernel_rfl) (FO.cons (off' := 3) opens_sigs (by kernel_rfl) (by kernel_rfl) (FO.cons (off' := 4) opens_ints (by kernel_rfl) (by kernel_rfl) (FO.cons (off' := 5) (opens_any Try.underlying26) (by kernel_rfl) (by kernel_rfl) (FO.cons (off' := 9) opens_timing (by kernel_rfl) (by kernel_rfl) FO.nil))))))).map
    (fun p => Cfg.mk p.1.1 p.2.1 p.2.2.1.1 p.2.2.2.1.1 p.2.2.2.2.1 p.1.2 p.2.2.1.2 p.2.2.2.1.2 p.2.2.2.2.2.1.1 p.2.2.2.2.2.1.2.1 p.2.2.2.2.2.1.2.2.1 p.2.2.2.2.2.1.2.2.2) (fun _ _ => rfl) (fun _ h => ⟨h.1.1, h.2.2.1.1, h.2.2.2.1.1, h.1.2, h.2.2.1.2, h.2.2.2.1.2⟩)
end
end Go.Proofs.Ytdnpofigagdabaa
