/- append in a region whose order is open. No program in sight. -/
import Derived.Test.YtakffjjnogpolaaLibR
namespace Go.BK
open Go.RowKit

section
variable {P : Program} {w0 : World} {S0 : BSet} {n : Nat} {F : Fr} {A r : List HP} {dd : Option Tmp} {T : TypeId} {pos : String} {af : Array Edge} {x y : Operand} {v u : Value} {t ty e : TypeId} {cs ys : List Value} {sz len m : Nat} {g : Option (Nat × Bool)} {out : Nat × Value → List HP}
theorem NewW.append {bts : Nat} {z : Value} (hx : ev F x = some v) (hy : ev F y = some u) (hu : P.underlying t = some (.slice e)) (hz : szB P e = some sz) (hb : byB P e = some bts) (hzv : zvB P e = some z) (hzs : Nat.beq z.cells.size sz = true) (hni : notInt P ty = true)
    (hb0 : Nat.beq bts 0 = false) (ht : Take (.own e sz v len cs) A r) (ha : Adds P w0 S0 A sz u m ys) (hroom : (len + m) * bts ≤ 140737488355328)
    (ho : ∀ p w, St w0 S0 (.own e sz p.2 (len + m) (cs ++ ys) :: r) w → St w0 S0 (out p) w) : NewW P w0 S0 n F A out ⟨dd, .call ⟨.builtin .append, #[x, y], #[t, ty]⟩, T, pos, af, g⟩ (fun p => p.2) := by
  refine ⟨fun Q K a w haa hst hK => ?_⟩
  obtain ⟨hyl, hy1, hyr⟩ := ha
  obtain ⟨hy2, hy3⟩ := hyr w hst
  have hzs := Nat.eq_of_beq_eq_true hzs
  obtain ⟨inf, hinf, hby⟩ : ∃ inf, P.info? e = some inf ∧ inf.bytes = bts := by
    unfold byB at hb
    cases h : P.info? e with
    | none => simp [h] at hb
    | some i => simp [h] at hb; exact ⟨i, rfl, hb⟩
  subst hby
  have hb0' : ¬ inf.bytes = 0 := Nat.ne_of_beq_eq_false hb0
  have fin : ∀ v' w', (Builtin.append_ #[t, ty] T #[v, u]).run P w = .ok v' w' → St w0 S0 (.own e sz v' (len + m) (cs ++ ys) :: r) w' → Oper.wp P ⟨dd, .call ⟨.builtin .append, #[x, y], #[t, ty]⟩, T, pos, af, g⟩ a w K Q := by
    intro v' w' hr hs'
    unfold Oper.wp
    rw [runCallB (vals := #[v, u]) (v := v') (w' := w') (by simp [haa.eval hx, haa.eval hy]) (by simp [builtin, hr])]
    exact hK (0, v') _ (ho (0, v') _ hs')
  obtain ⟨S, h1, h2, h3⟩ := id hst
  obtain ⟨S1, S2, hun, hdis, ⟨hcl, h4⟩, h5⟩ := ht.star h1
  have grow : ∀ p sCap, v = .slice p len sCap → sCap < len + m → (∀ w', w'.heap = w.heap → (Builtin.firstCells sz len v).run P w' = .ok cs.toArray w') → Oper.wp P ⟨dd, .call ⟨.builtin .append, #[x, y], #[t, ty]⟩, T, pos, af, g⟩ a w K Q := by
    intro p sCap hv hlt hfc
    subst hv
    have hge : len + m ≤ (Question.appendCap (len + m) sCap e).cut (w.tape w.drawn (Question.appendCap (len + m) sCap e)) := by simp [Question.cut]
    generalize hnc : (Question.appendCap (len + m) sCap e).cut (w.tape w.drawn (Question.appendCap (len + m) sCap e)) = nc at hge
    obtain ⟨sp, hsp1, hsp2⟩ : ∃ sp : List Value, Builtin.zeroCells z.cells (nc - (len + m)) = sp.toArray ∧ sp.length = (nc - (len + m)) * sz :=
      ⟨(Builtin.zeroCells z.cells (nc - (len + m))).toList, by simp, by simp [Builtin.zeroCells, hzs]⟩
    have hD : St w0 S0 A w.drew := hst.drew _
    refine fin _ _ (runAppendGrow hu hz hni hinf hb0' hzv hy2 hlt hnc hroom (hfc _ rfl) (hyr _ hD).2 hsp1) ?_
    have hN := (hD.drop ht).newBlk ((cs ++ ys) ++ sp).toArray e
    refine hN.mono fun S' w' hs' => star_mono hs' (fun S'' h => blk_own h (by simp [hcl, hyl, Nat.add_mul]) hge ?_) fun _ h => h
    simp only [List.length_append, hcl, hyl, hsp2, ← Nat.add_mul]
    congr 1; omega
  rcases h4 with ⟨h4, h5', h6⟩ | ⟨b, cap, sp, h4, h5', h6, h7⟩
  · subst h4; subst h5'
    simp at hcl; subst hcl
    by_cases hm : m = 0
    · subst hm
      simp at hyl; subst hyl
      exact fin _ w (runAppendNil hu hz hni hy2 hy3) ⟨S, ⟨S1, S2, hun, hdis, ⟨by simp, .inl ⟨rfl, rfl, h6⟩⟩, h5⟩, h2, h3⟩
    · exact grow none 0 rfl (by omega) (fun w' _ => by simp [Builtin.firstCells])
  · by_cases hfit : len + m ≤ cap
    · subst h4
      obtain ⟨hS1, lo, hi, hh, hfr⟩ := h7
      have hle : len * sz + ys.length ≤ (cs ++ sp).length := by rw [h6, hyl, ← Nat.add_mul]; exact Nat.mul_le_mul_right _ hfit
      have hstr := runStoreOne (P := P) (o := len * sz) hh (by simpa using hfr) hy1 hle
      have hov : over (cs ++ sp) (len * sz) ys = (cs ++ ys) ++ sp.drop ys.length := by
        unfold over
        rw [← hcl]
        simp
      rw [hov] at hstr
      refine fin _ _ (runAppendIn hu hz hni hy2 hfit hy3 hstr) ?_
      have hA : St w0 S0 (.blk b (cs ++ sp).toArray e :: r) w := ⟨S, ⟨S1, S2, hun, hdis, ⟨hS1, lo, hi, hh, hfr⟩, h5⟩, h2, h3⟩
      have hupd : St w0 S0 (.blk b ((cs ++ ys) ++ sp.drop ys.length).toArray e :: r) { w with heap := w.heap.setIfInBounds b (.cells ((cs ++ ys) ++ sp.drop ys.length).toArray e (lo, hi)) } := by
        refine hA.write .head (fun lo' hi' h8 _ => ?_) (by rw [← hov]; exact over_length hle)
        rw [hh] at h8
        injection h8 with h8
        cases h8
        rfl
      exact hupd.mono fun S' w' hs' => star_mono hs' (fun S'' h => blk_own h (by simp [hcl, hyl, Nat.add_mul]) hfit (by rw [← hov, over_length hle, h6])) fun _ h => h
    · exact grow (some ⟨b, 0, none⟩) cap h4 (by omega) (fun w' hw' => by
        subst h4
        obtain ⟨hS1, lo, hi, hh, hfr⟩ := h7
        refine runFirst hcl fun j q hj => ?_
        have h6 := List.getElem?_eq_some_iff.1 hj
        simp [World.cell?, hw', hh, List.getElem?_append, h6.1, h6.2])
/-- An own slice is one cell. -/
theorem EvW.slOwn {o : Oper} {x : Value} (v : Value) (ht : Take (.own e sz v len cs) A r) (kk : v.cells = [v].toArray → v.oneCell' = true → EvW P w0 S0 n F A o x) : EvW P w0 S0 n F A o x :=
  ⟨fun Q K a w ha hst hK => by
    obtain ⟨S, h⟩ := hst.take ht
    have := sl_cells (own_sl h)
    exact (kk this.1 (by simpa using this.2)).go Q K a w ha hst hK⟩
theorem EffW.slOwn {o : Oper} {x : Value} {A' : List HP} (v : Value) (ht : Take (.own e sz v len cs) A r) (kk : v.cells = [v].toArray → v.oneCell' = true → EffW P w0 S0 n F A A' o x) : EffW P w0 S0 n F A A' o x :=
  ⟨fun Q K a w ha hst hK => by
    obtain ⟨S, h⟩ := hst.take ht
    have := sl_cells (own_sl h)
    exact (kk this.1 (by simpa using this.2)).go Q K a w ha hst hK⟩
theorem Sees.row_one {w : World} {S : BSet} {v : Value} {cs : List Value} {sz len : Nat} (h : Sees w S (.row sz v len cs)) : v.oneCell' = true := by
  rcases h.row_shape with ⟨p, cap, rfl, _⟩ | ⟨b, off, cap, rfl, _⟩ <;> rfl
/-- A store of a slice of the call's own. -/
theorem EffW.storeSl {A' : List HP} {bl o : Nat} (hx : ev F x = some (ptr bl o)) (hy : ev F y = some v) (ht : Take (.own e sz v len cs) A r) (hz : szB P t = some 1) (hu : UpdC bl o [v] A A') : EffW P w0 S0 n F A A' ⟨none, .store t x y, T, pos, af, g⟩ undef := by
  refine ⟨fun Q K a w ha hst hK => ?_⟩
  obtain ⟨S, h1, h2, h3⟩ := id hst
  obtain ⟨S1, S2, hun, hdis, h4, h5⟩ := ht.star h1
  have hv : v.oneCell' = true := by
    rcases own_shape h4 with ⟨rfl, _, _⟩ | ⟨b, cap, rfl, _⟩ <;> rfl
  exact (EffW.store (P := P) (w0 := w0) (S0 := S0) (n := n) (F := F) (T := T) (pos := pos) (af := af) (g := g) (t := t) hx hy (cells_one hv) (by simpa using hz) (by simp [hv]) hu).go Q K a w ha hst hK
end
end Go.BK
