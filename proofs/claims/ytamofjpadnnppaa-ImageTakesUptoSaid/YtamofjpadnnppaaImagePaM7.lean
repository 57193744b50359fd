/- ImageTakes holds for every input of bulk at most 1048576: whatever comes from whichever controller, what is known of each element is what the document says. Condition: the bulk of the second form. -/
import Derived.Test.YtamofjpadnnppaaImagePaM6
namespace Go.Proofs.Ytamofjpadnnppaa
open Go.RowKit Go.BK Go.Deep Go.ChangeShapes Go.WideShapes Go.ChangeAt
theorem okWide_struct {W : World} {P : Program} {t : TypeId} {fs : Array Field} {base : Nat} {v : Value} (ht : P.underlying t = some (.struct fs)) (h : Value.okWide P W .any base t v) : ∃ cs, v = .agg cs := by
  unfold Value.okWide at h
  rw [ht] at h
  obtain ⟨cs, h, _⟩ := h
  exact ⟨cs, h⟩
theorem sum_one {α : Type} (l : List α) : (l.map fun _ => 1).sum = l.length := by
  induction l with
  | nil => rfl
  | cons x r ih => rw [List.map_cons, List.sum_cons, ih, List.length_cons]; omega
section
variable {H : Type} {enc : TypeId × Value → H} {W : World}
/-- A slice of whatever: one cell. -/
theorem opensU_any {P : Program} {t e : TypeId} (ht : P.underlying t = some (.slice e)) : OpensU enc P W t (fun v : Value => [v]) (fun _ => True) (fun _ => 0) := by
  intro n cs x hx
  rcases open_slice ht hx with ⟨h1, h2⟩ | ⟨a, len, cap, m, n', D, Pl, h1, _⟩
  · exact ⟨.slice none 0 0, h1, trivial, Nat.zero_le _⟩
  · exact ⟨.slice (some a) len cap, h1, trivial, Nat.zero_le _⟩
theorem opensU_sec : OpensU enc Try.prog W 47 secC (fun _ => True) (fun _ => 1) :=
  (OpensU.struct Try.underlying47 (by kernel_rfl) (FOU.cons (off' := 1) (OpensU.int Try.underlying3) (by kernel_rfl) (by kernel_rfl) (FOU.cons (off' := 2) (OpensU.int Try.underlying3) (by kernel_rfl) (by kernel_rfl) (FOU.cons (off' := 3) (OpensU.int Try.underlying3) (by kernel_rfl) (by kernel_rfl) FOU.nil)))).map
    (fun p => Sec.mk p.1 p.2.1 p.2.2.1) (fun _ _ => rfl) (fun _ _ => trivial) (fun _ _ => by omega)
theorem opensU_sig : OpensU enc Try.prog W 70 sigC (fun _ => True) (fun _ => 1) :=
  (OpensU.struct Try.underlying70 (by kernel_rfl) (FOU.cons (off' := 1) (OpensU.int Try.underlying3) (by kernel_rfl) (by kernel_rfl) (FOU.cons (off' := 2) (OpensU.int Try.underlying3) (by kernel_rfl) (by kernel_rfl) FOU.nil))).map
    (fun p => Sig.mk p.1 p.2.1) (fun _ _ => rfl) (fun _ _ => trivial) (fun _ _ => by omega)
theorem opensU_timing : OpensU enc Try.prog W 28 (fun x : Int × Int × Int × Int => [i64 x.1, i64 x.2.1, i64 x.2.2.1, i64 x.2.2.2]) (fun x => -9223372036854775808 ≤ x.1 ∧ x.1 ≤ 9223372036854775807) (fun _ => 1) :=
  (OpensU.struct Try.underlying28 (by kernel_rfl) (FOU.cons (off' := 1) (OpensU.int Try.underlying3) (by kernel_rfl) (by kernel_rfl) (FOU.cons (off' := 2) (OpensU.int Try.underlying3) (by kernel_rfl) (by kernel_rfl) (FOU.cons (off' := 3) (OpensU.int Try.underlying3) (by kernel_rfl) (by kernel_rfl) (FOU.cons (off' := 4) (OpensU.int Try.underlying3) (by kernel_rfl) (by kernel_rfl) FOU.nil))))).map
    (fun p => (p.1, p.2.1, p.2.2.1, p.2.2.2.1)) (fun _ _ => rfl) (fun _ h => wf_i64 h.1) (fun _ _ => by omega)
def cfgMu (c : Cfg) : Nat := c.secs.length + c.sigs.length + c.crs.length
structure Cfg.In (c : Cfg) (W : World) : Prop where
  seen : cfgMu c ≤ 1048576 → c.Seen W (fun _ => False)
  age : -9223372036854775808 ≤ c.age ∧ c.age ≤ 9223372036854775807
theorem opensU_config : OpensU enc Try.prog W 30 cfgC (fun c => c.In W) cfgMu :=
  (OpensU.struct Try.underlying30 (by kernel_rfl) (FOU.cons (off' := 1) (OpensU.slice (sz := 3) Try.underlying22 (by kernel_rfl) (by decide) (fun _ => rfl) opensU_sec) (by kernel_rfl) (by kernel_rfl) (FOU.cons (off' := 2) (opensU_any Try.underlying23) (by kernel_rfl) (by kernel_rfl)
    (FOU.cons (off' := 3) (OpensU.slice (sz := 2) Try.underlying24 (by kernel_rfl) (by decide) (fun _ => rfl) opensU_sig) (by kernel_rfl) (by kernel_rfl) (FOU.cons (off' := 4) (OpensU.slice (sz := 1) Try.underlying25 (by kernel_rfl) (by decide) (fun _ => rfl) (OpensU.int Try.underlying3)) (by kernel_rfl) (by kernel_rfl)
    (FOU.cons (off' := 5) (opensU_any Try.underlying26) (by kernel_rfl) (by kernel_rfl) (FOU.cons (off' := 9) opensU_timing (by kernel_rfl) (by kernel_rfl) FOU.nil))))))).map
    (fun p => Cfg.mk p.1.1 p.2.1 p.2.2.1.1 p.2.2.2.1.1 p.2.2.2.2.1 p.1.2 p.2.2.1.2 p.2.2.2.1.2 p.2.2.2.2.2.1.1 p.2.2.2.2.2.1.2.1 p.2.2.2.2.2.1.2.2.1 p.2.2.2.2.2.1.2.2.2) (fun _ _ => rfl)
    (fun p h => ⟨fun hm => ⟨h.1.1, h.2.2.1.1, by have := h.2.2.2.1.1; rw [flat_one] at this; exact this, by unfold cfgMu at hm; omega, by unfold cfgMu at hm; omega, by unfold cfgMu at hm; omega⟩, h.2.2.2.2.2.1⟩)
    (fun p _ => by
      have h1 := sum_one p.1.2
      have h2 := sum_one p.2.2.1.2
      have h3 := sum_one p.2.2.2.1.2
      unfold cfgMu
      simp only [] at h1 h2 h3 ⊢
      omega)
theorem Cfg.In.small {c : Cfg} (hm : cfgMu c ≤ 1048576) : c.Small := by
  unfold cfgMu at hm
  exact ⟨by omega, by omega, by omega⟩
def camMu (c : Came) : Nat := c.t.length + 1
def Came.In (c : Came) : Prop := c.now ≤ 9223372036854775807
theorem opensU_came : OpensU enc Try.prog W 36 cameC Came.In camMu :=
  (OpensU.struct Try.underlying36 (by kernel_rfl) (FOU.cons (off' := 1) (OpensU.int Try.underlying3) (by kernel_rfl) (by kernel_rfl) (FOU.cons (off' := 2) (OpensU.int Try.underlying3) (by kernel_rfl) (by kernel_rfl) (FOU.cons (off' := 3) (OpensU.str Try.underlying9) (by kernel_rfl) (by kernel_rfl) FOU.nil)))).map
    (fun p => Came.mk p.1 p.2.1 p.2.2.1) (fun _ _ => rfl) (fun _ h => (wf_i64 h.1).2) (fun p _ => by unfold camMu; simp only []; omega)
end
theorem came_small : ∀ {xs : List Came} {B : Nat}, (xs.map camMu).sum ≤ B → xs.length ≤ B ∧ ∀ o ∈ xs, camMu o ≤ B := by
  intro xs
  induction xs with
  | nil => intro B _; exact ⟨by simp, fun i h => by cases h⟩
  | cons x r ih =>
    intro B h
    simp only [List.map_cons, List.sum_cons] at h
    have h1 : 1 ≤ camMu x := by unfold camMu; omega
    obtain ⟨h2, h3⟩ := ih (B := B - camMu x) (by omega)
    refine ⟨by simp only [List.length_cons]; omega, fun i hi => ?_⟩
    rcases List.mem_cons.1 hi with rfl | hi
    · omega
    · have := h3 i hi; omega
theorem came_ok {xs : List Came} {B : Nat} (h : (xs.map camMu).sum ≤ B) (hB : B ≤ 1048576) (hq : ∀ x ∈ xs, x.In) : xs.length ≤ 1048576 ∧ ∀ o ∈ xs, o.ok := by
  obtain ⟨h1, h2⟩ := came_small h
  exact ⟨by omega, fun o ho => ⟨hq o ho, by have := h2 o ho; unfold camMu at this; omega⟩⟩
end Go.Proofs.Ytamofjpadnnppaa
namespace Go.Proofs.Ytamofjpadnnppaa
open Go.ChangeShapes Go.WideShapes Go.ChangeAt Go.RowKit Go.BK
set_option maxRecDepth 100000 in
theorem imageTakes_lifted (os : Os) (started : os.Started) (H : Type) (enc : TypeId × Value → H) (F : Stop.Interp) :
    ReturnsInHanded {} Try.checked os 5 .any ((Rows.OpenSpec.upto Rows.imageTakesSpec).pre6 enc Try.prog Try.f5 Rows.imageTakesUptoRow.domain false) (((Rows.OpenSpec.upto Rows.imageTakesSpec).at F).post enc Try.prog Try.f5 false true false false) := by
  refine law_liftedU (C := Try.checked) (s := Rows.imageTakesSpec) (tb := 4) Try.own started (by kernel_rfl) Try.func5 rfl Try.underlying4 rfl Try.laidOut (by kernel_rfl) (by intro ds h; match ds, h with | [d1, d2], _ => rfl)
    (OpenSpec.witness (enc := enc) (C := Try.checked) (s := Rows.OpenSpec.upto Rows.imageTakesSpec) (k := Rows.uptoSmall) rfl false ⟨#[], #[.agg #[.slice none 0 0, .slice none 0 0, .slice none 0 0, .slice none 0 0, .slice none 0 0, .int .i64 0, .int .i64 0, .int .i64 0, .int .i64 0], .slice none 0 0], []⟩ 8 (by kernel_rfl) (by kernel_rfl) (by kernel_rfl)
      (x := ([.agg [.nil, .nil, .nil, .nil, .nil, .agg [.lit (.int .i64 0), .lit (.int .i64 0), .lit (.int .i64 0), .lit (.int .i64 0)]], .nil], [], [])) (by kernel_rfl) rfl (by kernel_rfl)) ?_
  intro W base args ds p hval hA0 hk
  have hA : DataW.TrodAll enc Try.prog W 0 (fun _ => true) true Try.f5.params.toList args.toList ds p := hA0
  rw [Try.params5] at hA hval
  clear hA0
  obtain ⟨v0, v1, d0, d1, p0, p1, rfl, rfl, rfl, h0, h1⟩ := trodAll_two hA
  obtain ⟨c, rfl, hc, hb0⟩ := argU_agg opensU_config (okWide_struct Try.underlying30 (hval 0 30 v0 rfl rfl)) h0
  obtain ⟨xs, hx, hq, hb⟩ := argU_slice (sz := 3) Try.underlying31 (by kernel_rfl) (by decide) (fun _ => rfl) opensU_came (hval 1 31 v1 rfl rfl) h1
  simp only [Rows.uptoBulkAll] at hk
  have hm : cfgMu c ≤ 1048576 := by omega
  obtain ⟨h2, h3⟩ := came_ok (xs := xs) (B := 1048576) (by omega) (Nat.le_refl _) hq
  exact (imageTakes_law c v1 xs W _ (fun _ h => h) (hc.seen hm) (Cfg.In.small hm) hx h2 h3).law (fun _ _ h => h)
theorem imageTakes_holds : Rows.ImageTakesUptoSaid :=
  OpenClaim.holds_of_cond 5 Try.f5 rfl rfl rfl rfl rfl rfl rfl ⟨rfl, rfl, rfl, rfl, rfl⟩ rfl rfl rfl rfl rfl (by kernel_rfl) Try.func5 (by kernel_rfl)
    (of_decide_eq_true (by kernel_rfl)) (by unfold Func.isWrapper; first | (rw [if_pos (by decide +kernel)]; kernel_rfl) | (rw [if_neg (by decide +kernel)]; exact ⟨rfl, rfl⟩))
    (fun os started H enc _ F => imageTakes_lifted os started H enc F)
end Go.Proofs.Ytamofjpadnnppaa
