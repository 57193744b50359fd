/- TeleCross holds for every input: a payload of one kind is none of another, and none of a controller with other counts. No condition. -/
import Derived.Test.YtdnpofigagdabaaTeleS
import Derived.Test.YtdnpofigagdabaaTeleO
namespace Go.Proofs.Ytdnpofigagdabaa
open Go.ChangeShapes Go.WideShapes Go.ChangeAt Go.RowKit Go.BK

theorem opens_intsB {H : Type} {enc : TypeId × Value → H} {W : World} : Opens enc Try.prog W 25 (fun p : Value × List Int => [p.1]) (fun p => RowInt W p.1 p.2 ∧ p.2.length ≤ 17592186043904) := by
  refine (Opens.slice (sz := 1) Try.underlying25 (by kernel_rfl) (by decide) (fun _ => rfl) (Opens.int Try.underlying3)).map id (fun _ _ => rfl) ?_
  rintro ⟨v, l⟩ ⟨h1, _, h3⟩
  have hb : Try.prog.bytesOf 3 = 8 := by kernel_rfl
  rw [hb] at h3
  have h3' : l.length * 8 ≤ 140737488351232 := h3
  refine ⟨⟨?_, by show l.length ≤ _; omega⟩, by show l.length ≤ _; omega⟩
  have := flat_one (fun a : Int => i64 a) l
  show Sees W (fun _ => False) (.row 1 v l.length (l.map i64))
  rw [show l.map i64 = l.flatMap fun a => [i64 a] from this.symm]
  exact h1
theorem opens_shapeB {H : Type} {enc : TypeId × Value → H} {W : World} : Opens enc Try.prog W 33 (fun x : Q4 => [x.a, x.b, x.y, x.d]) (fun x => x.Seen W (fun _ => False) ∧ x.la.length ≤ 17592186043904) :=
  (Opens.struct Try.underlying33 (by kernel_rfl) (FO.cons (off' := 1) opens_intsB (by kernel_rfl) (by kernel_rfl) (FO.cons (off' := 2) opens_ints (by kernel_rfl) (by kernel_rfl) (FO.cons (off' := 3) opens_ints (by kernel_rfl) (by kernel_rfl) (FO.cons (off' := 4) opens_ints (by kernel_rfl) (by kernel_rfl) FO.nil))))).map
    (fun p => Q4.mk p.1.1 p.2.1.1 p.2.2.1.1 p.2.2.2.1.1 p.1.2 p.2.1.2 p.2.2.1.2 p.2.2.2.1.2) (fun _ _ => rfl) (fun _ h => ⟨⟨h.1.1.1, h.2.1.1, h.2.2.1.1, h.2.2.2.1.1, h.1.1.2, h.2.1.2, h.2.2.1.2, h.2.2.2.1.2⟩, h.1.2⟩)
set_option maxRecDepth 100000 in
theorem teleCross_lifted (os : Os) (started : os.Started) (H : Type) (enc : TypeId × Value → H) :
    ReturnsInHanded {} Try.checked os 7 .any (Rows.teleCrossSpec.pre6 enc Try.prog Try.f7 Rows.teleCrossRow.domain false) (Rows.teleCrossSpec.post enc Try.prog Try.f7 false true false false) := by
  refine law_lifted (C := Try.checked) (s := Rows.teleCrossSpec) (tb := 4) Try.own started (by kernel_rfl) Try.func7 rfl Try.underlying4 rfl Try.laidOut (by kernel_rfl) (by intro ds h; match ds, h with | [d1, d2, d3], _ => rfl)
    (ChangeSpec.witness6 (enc := enc) (C := Try.checked) false ⟨#[], #[.agg #[.slice none 0 0, .slice none 0 0, .slice none 0 0, .slice none 0 0], .agg #[.slice none 0 0, .slice none 0 0, .slice none 0 0, .slice none 0 0, .slice none 0 0, .slice none 0 0, .slice none 0 0, .int .i64 0, .int .i64 0, .int .i64 0], .int .i64 0], []⟩ 8 (by kernel_rfl) (by kernel_rfl) (by kernel_rfl) (by kernel_rfl)) ?_
  intro W base args ds p hval hA0 hsz0
  have hA : DataW.TrodAll enc Try.prog W 0 (fun _ => true) true Try.f7.params.toList args.toList ds p := hA0
  have hsz : (DataW.weightsEach Try.prog Try.f7.params.toList ds).all (· ≤ reachBytes) = true := hsz0
  rw [Try.params7] at hA hsz hval
  clear hA0 hsz0
  obtain ⟨v0, v1, v2, d0, d1, d2, p0, p1, p2, rfl, rfl, rfl, h0, h1, h2⟩ := trodAll_three hA
  obtain ⟨h, rfl, hh⟩ := arg_agg (j := 0) opens_shapeB (okWide_struct Try.underlying33 (hval 0 33 v0 rfl rfl)) h0 hsz rfl rfl
  obtain ⟨t, rfl, ht⟩ := arg_agg (j := 1) opens_told (okWide_struct Try.underlying50 (hval 1 50 v1 rfl rfl)) h1 hsz rfl rfl
  obtain ⟨c, rfl, rfl, rfl, _⟩ := open_int Try.underlying3 (hval 2 3 v2 rfl rfl) h2
  exact (teleCross_law h t.s t.o t.x t.y t.z c W _ (fun _ h => h) hh.1 ht.1 ht.2.1 hh.2).law (fun _ _ h => h)
theorem teleCross_holds : Rows.TeleCrossSaid :=
  OpenClaim.holds_of_wide 7 Try.f7 rfl rfl rfl rfl rfl rfl rfl ⟨rfl, rfl, rfl, rfl, rfl⟩ rfl rfl rfl rfl rfl (by kernel_rfl) Try.func7 (by kernel_rfl)
    (of_decide_eq_true (by kernel_rfl)) (by unfold Func.isWrapper; first | (rw [if_pos (by decide +kernel)]; kernel_rfl) | (rw [if_neg (by decide +kernel)]; exact ⟨rfl, rfl⟩))
    (fun os started H enc _ => teleCross_lifted os started H enc)
#print axioms teleCross_holds
end Go.Proofs.Ytdnpofigagdabaa
