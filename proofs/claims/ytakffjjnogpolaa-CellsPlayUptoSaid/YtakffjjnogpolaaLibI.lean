/- Elements of slices, by the slice and the index. No program in sight. -/
import Derived.Test.YtakffjjnogpolaaLibH
namespace Go.BK
open Go.RowKit

theorem tmod_cases (n m : Int) : (0 ≤ n ∧ n.tmod m = n % m) ∨ (n < 0 ∧ n.tmod m = -((-n) % m)) := by
  by_cases h : 0 ≤ n
  · exact .inl ⟨h, by rw [Int.tmod_eq_emod_of_nonneg h]⟩
  · refine .inr ⟨by omega, ?_⟩
    have := Int.neg_tmod (a := -n) (b := m)
    rw [Int.neg_neg] at this
    rw [this, Int.tmod_eq_emod_of_nonneg (by omega)]
/-- Where a cell of an element lies. -/
def elemP (sz : Nat) (v : Value) (i off : Nat) : Value := match v with
  | .slice (some ⟨b, o, none⟩) _ _ => ptr b (o + (i * sz + off))
  | _ => .pointer none

section
variable {P : Program} {w0 : World} {S0 : BSet} {n : Nat} {F : Fr} {A r : List HP} {ops : Array Oper} {Q : Exit → Act → World → Prop} {rest : List Oper} {d : Nat} {T : TypeId} {pos : String} {af : Array Edge} {x y : Operand} {v u q : Value} {t ty e ee : TypeId} {k : IntKind} {a b : Int} {cs ys : List Value} {bl o sz len m i off : Nat} {xs : List Int}
  {dd : Option Tmp} {g : Option (Nat × Bool)}
theorem elemP_add {s f off' : Nat} {w : World} (hs : ∃ b o c l, v = .slice (some ⟨b, o, none⟩) l c) (hf : fieldB P s f = some off') : (Instr.fieldAt s (elemP sz v i off) f).run P w = .ok (elemP sz v i (off + off')) w := by
  obtain ⟨b, o, c, l, rfl⟩ := hs
  simp only [elemP]
  rw [runFieldAt hf]
  simp [Nat.add_assoc]
theorem runIndexAt {w : World} {cap : Nat} {bl o : Nat} (hu : P.underlying t = some (.slice e)) (hz : szB P e = some sz) (h0 : 0 ≤ a) (h1 : a < len) : (Instr.indexAt t (.slice (some ⟨bl, o, none⟩) len cap) (.int k a)).run P w = .ok (elemP sz (.slice (some ⟨bl, o, none⟩) len cap) a.toNat 0) w := by
  have e1 := add_at bl o (a.toNat * sz)
  simp [Instr.indexAt, asIntOf, run_underlying hu, h0, h1, runSz hz, e1, elemP]
theorem EvW.idxRow (hx : ev F x = some v) (hy : ev F y = some (.int k a)) (hu : P.underlying t = some (.slice e)) (hz : szB P e = some sz) (hB : Sees w0 S0 (.row sz v len cs)) (h0 : 0 ≤ a) (h1 : a < len) :
    EvW P w0 S0 n F A ⟨dd, .indexAddr t x y, T, pos, af, g⟩ (elemP sz v a.toNat 0) :=
  .pure fun a' w ha _ => by
    rcases hB.row_shape with ⟨_, _, _, h4, _⟩ | ⟨b', o', cap, h3, _⟩
    · omega
    · subst h3
      simp [execOp, ha.eval hx, ha.eval hy, runIndexAt hu hz h0 h1]
theorem EvW.idxOwn (hx : ev F x = some v) (hy : ev F y = some (.int k a)) (hu : P.underlying t = some (.slice e)) (hz : szB P e = some sz) (ht : Take (.own ee sz v len cs) A r) (h0 : 0 ≤ a) (h1 : a < len) :
    EvW P w0 S0 n F A ⟨dd, .indexAddr t x y, T, pos, af, g⟩ (elemP sz v a.toNat 0) :=
  .pure fun a' w ha hst => by
    obtain ⟨S, hS⟩ := hst.take ht
    rcases own_shape hS with ⟨_, h4, _⟩ | ⟨b', cap, h3, _⟩
    · omega
    · subst h3
      simp [execOp, ha.eval hx, ha.eval hy, runIndexAt hu hz h0 h1]
theorem row_elem {R : BSet} {w : World} (h : (HP.row sz v len cs).sat R w) (hk : cs[i * sz + off]? = some q) : ∃ b o l c, v = .slice (some ⟨b, o, none⟩) l c ∧ elemP sz v i off = ptr b (o + (i * sz + off)) ∧ w.cell? ⟨b, o + (i * sz + off), none⟩ = some q := by
  obtain ⟨hl, h'⟩ := id h
  rcases h' with ⟨_, _, h1, h2, _⟩ | ⟨b', off', cap', c, U, fr, h1, _, h3, h4, _⟩
  · subst h2; simp at hl; subst hl; simp at hk
  · subst h1; exact ⟨b', off', len, cap', rfl, rfl, row_cell hk R w h⟩
theorem EvW.fldRow {s f off' : Nat} (hx : ev F x = some (elemP sz v i off)) (hf : fieldB P s f = some off') (hB : Sees w0 S0 (.row sz v len cs)) (hi : i < len) : EvW P w0 S0 n F A ⟨dd, .fieldAddr s x f, T, pos, af, g⟩ (elemP sz v i (off + off')) :=
  .pure fun a' w ha _ => by
    rcases hB.row_shape with ⟨_, _, _, h4, _⟩ | ⟨b', o', cap, h3, _⟩
    · omega
    · simp [execOp, ha.eval hx, elemP_add (w := w) ⟨b', o', cap, len, h3⟩ hf]
theorem EvW.fldOwn {s f off' : Nat} (hx : ev F x = some (elemP sz v i off)) (hf : fieldB P s f = some off') (ht : Take (.own ee sz v len cs) A r) (hi : i < len) : EvW P w0 S0 n F A ⟨dd, .fieldAddr s x f, T, pos, af, g⟩ (elemP sz v i (off + off')) :=
  .pure fun a' w ha hst => by
    obtain ⟨S, hS⟩ := hst.take ht
    rcases own_shape hS with ⟨_, h4, _⟩ | ⟨b', cap, h3, _⟩
    · omega
    · simp [execOp, ha.eval hx, elemP_add (w := w) ⟨b', 0, cap, len, h3⟩ hf]
theorem EvW.nilElemRow (hx : ev F x = some (elemP sz v i off)) (hB : Sees w0 S0 (.row sz v len cs)) (hi : i < len) : EvW P w0 S0 n F A ⟨dd, .nilCheck x, T, pos, af, g⟩ (elemP sz v i off) :=
  .pure fun a' w ha _ => by
    rcases hB.row_shape with ⟨_, _, _, h4, _⟩ | ⟨b', o', cap, h3, _⟩
    · omega
    · subst h3; simp [execOp, ha.eval hx, elemP]
theorem EvW.nilElemOwn (hx : ev F x = some (elemP sz v i off)) (ht : Take (.own ee sz v len cs) A r) (hi : i < len) : EvW P w0 S0 n F A ⟨dd, .nilCheck x, T, pos, af, g⟩ (elemP sz v i off) :=
  .pure fun a' w ha hst => by
    obtain ⟨S, hS⟩ := hst.take ht
    rcases own_shape hS with ⟨_, h4, _⟩ | ⟨b', cap, h3, _⟩
    · omega
    · subst h3; simp [execOp, ha.eval hx, elemP]
theorem EvW.ldRow (hx : ev F x = some (elemP sz v i off)) (hs : scalB P t = true) (hB : Sees w0 S0 (.row sz v len cs)) (hc : cs[i * sz + off]? = some q) : EvW P w0 S0 n F A ⟨dd, .load t x, T, pos, af, g⟩ q :=
  .pure fun a' w ha hst => by
    obtain ⟨R, hR⟩ := hB.at hst
    obtain ⟨b, o, l, c, h1, h2, h3⟩ := row_elem hR hc
    rw [h2] at hx
    simp [execOp, ha.eval hx, runLoadScal hs h3]
theorem EvW.ldOwn (hx : ev F x = some (elemP sz v i off)) (hs : scalB P t = true) (ht : Take (.own ee sz v len cs) A r) (hc : cs[i * sz + off]? = some q) : EvW P w0 S0 n F A ⟨dd, .load t x, T, pos, af, g⟩ q :=
  .pure fun a' w ha hst => by
    obtain ⟨R, hR⟩ := hst.take ht
    obtain ⟨b, o, l, c, h1, h2, h3⟩ := row_elem (own_row hR) hc
    rw [h2] at hx
    simp [execOp, ha.eval hx, runLoadScal hs h3]
theorem EvW.ldInt (hx : ev F x = some (elemP 1 v i 0)) (hs : scalB P t = true) (hB : Sees w0 S0 (.row 1 v len (xs.map i64))) (hi : i < xs.length) : EvW P w0 S0 n F A ⟨dd, .load t x, T, pos, af, g⟩ (i64 (xs.getD i 0)) :=
  .ldRow hx hs hB (by simp [hi])
theorem EvW.ldIntOwn (hx : ev F x = some (elemP 1 v i 0)) (hs : scalB P t = true) (ht : Take (.own ee 1 v len (xs.map i64)) A r) (hi : i < xs.length) : EvW P w0 S0 n F A ⟨dd, .load t x, T, pos, af, g⟩ (i64 (xs.getD i 0)) :=
  .ldOwn hx hs ht (by simp [hi])
/-- A store into an element of a slice of the call's own. -/
theorem WL.stOwn {A' : List HP} (hx : ev F x = some (elemP sz v i off)) (hy : ev F y = some u) (hv : u.cells = ys.toArray) (hz : szB P t = some ys.length) (h1 : ys.all (·.oneCell') = true) (hpos : Nat.ble 1 ys.length = true) (ht : Take (.own ee sz v len cs) A r) (hl : i * sz + off + ys.length ≤ cs.length)
    (ht' : Take (.own ee sz v len (over cs (i * sz + off) ys)) A' r) (kk : WL P w0 S0 n ops Q rest F A') : WL P w0 S0 n ops Q (⟨none, .store t x y, T, pos, af, none⟩ :: rest) F A := by
  refine .step (fun a w ha hst K hK => ?_) rfl
  obtain ⟨S, hs1, hs2, hs3⟩ := id hst
  obtain ⟨S1, S2, hu, hd, ⟨hcl, h⟩, h5⟩ := ht.star hs1
  rcases h with ⟨h3, h4, h6⟩ | ⟨b, cap, sp, h3, h4, h6, hS1, lo, hi, hh, hfr⟩
  · subst h4
    exfalso
    have := Nat.le_of_ble_eq_true hpos
    simp at hcl; subst hcl
    simp at hl; simp [hl] at this
  · subst h3
    have hle : (i * sz + off) + ys.length ≤ (cs ++ sp).length := by simp; omega
    have hx' : a.eval x = ptr b (i * sz + off) := by rw [ha.eval hx]; simp [elemP]
    have hrun : (execOp a.eval ⟨none, .store t x y, T, pos, af, none⟩).run P w = .ok .skip { w with heap := w.heap.setIfInBounds b (.cells (over (cs ++ sp) (i * sz + off) ys).toArray ee (lo, hi)) } := by
      simp [execOp, hx', ha.eval hy, runStoreAt hz hv h1 hh (by simpa using hfr) hle]
    have hov : over (cs ++ sp) (i * sz + off) ys = over cs (i * sz + off) ys ++ sp := by
      unfold over
      rw [List.take_append_of_le_length (by omega), List.drop_append_of_le_length (by omega)]
      simp
    unfold Oper.wp
    rw [hrun]
    have hA : St w0 S0 (.blk b (cs ++ sp).toArray ee :: r) w := ⟨S, ⟨S1, S2, hu, hd, ⟨hS1, lo, hi, hh, hfr⟩, h5⟩, hs2, hs3⟩
    have hupd : St w0 S0 (.blk b (over (cs ++ sp) (i * sz + off) ys).toArray ee :: r) { w with heap := w.heap.setIfInBounds b (.cells (over (cs ++ sp) (i * sz + off) ys).toArray ee (lo, hi)) } := by
      refine hA.write .head (fun lo' hi' h8 _ => ?_) (over_length hle)
      rw [hh] at h8
      injection h8 with h8
      cases h8
      rfl
    refine hK _ _ (kk.go _ _ ha (hupd.mono fun S' w' hs' => ht'.unstar (star_mono hs' (fun S'' h => ?_) fun _ h => h)))
    rw [hov] at h
    exact blk_own h (by rw [over_length hl]; exact hcl) h4 (by rw [← hov, over_length hle, h6])
theorem WL.callT {f : FuncId} {args : List Operand} {ats : Array TypeId} {vals : List Value} {A1 A2 : List HP} {R : Value → List HP → Prop}
    (hn : Nat.blt d n = true) (hargs : evs F args = some vals)
    (hspec : ∀ w S, (sepL A1).sat S w → (∀ B, Sees w0 S0 B → Sees w S B) → (∀ B r, Take B A2 r → Sees w S B) → Tri P f vals.toArray w S R) (hcall : ∀ w, (callFunc f vals.toArray).run P w = .ok (.enter f vals.toArray) w) (ht : TakeL A1 A A2)
    (kk : ∀ v A', R v A' → WL P w0 S0 n ops Q rest ((d, v) :: F) (A' ++ A2)) :
    WL P w0 S0 n ops Q (⟨some d, .call ⟨.value (.func f), args.toArray, ats⟩, T, pos, af, none⟩ :: rest) F A := .call hn hargs hcall ht hspec kk
theorem WL.callA {f : FuncId} {args : List Operand} {ats : Array TypeId} {vals : List Value} (A1 : List HP) {A2 : List HP} {R : Value → List HP → Prop}
    (hn : Nat.blt d n = true) (hargs : evs F args = some vals) (hcall : ∀ w, (callFunc f vals.toArray).run P w = .ok (.enter f vals.toArray) w) (ht : TakeL A1 A A2)
    (hspec : ∀ w S, (sepL A1).sat S w → (∀ B, Sees w0 S0 B → Sees w S B) → (∀ B r, Take B A2 r → Sees w S B) → Tri P f vals.toArray w S R)
    (kk : ∀ v A', R v A' → WL P w0 S0 n ops Q rest ((d, v) :: F) (A' ++ A2)) :
    WL P w0 S0 n ops Q (⟨some d, .call ⟨.value (.func f), args.toArray, ats⟩, T, pos, af, none⟩ :: rest) F A := .call hn hargs hcall ht hspec kk
variable {h1 h2 h3 h4 h5 : HP}
theorem WL.app0 (h : WL P w0 S0 n ops Q rest F A) : WL P w0 S0 n ops Q rest F ([] ++ A) := h
theorem WL.app1 (h : WL P w0 S0 n ops Q rest F (h1 :: A)) : WL P w0 S0 n ops Q rest F ([h1] ++ A) := h
theorem WL.app2 (h : WL P w0 S0 n ops Q rest F (h1 :: h2 :: A)) : WL P w0 S0 n ops Q rest F ([h1, h2] ++ A) := h
theorem WL.app3 (h : WL P w0 S0 n ops Q rest F (h1 :: h2 :: h3 :: A)) : WL P w0 S0 n ops Q rest F ([h1, h2, h3] ++ A) := h
theorem WL.app4 (h : WL P w0 S0 n ops Q rest F (h1 :: h2 :: h3 :: h4 :: A)) : WL P w0 S0 n ops Q rest F ([h1, h2, h3, h4] ++ A) := h
theorem St.keep {w : World} {xs : List HP} (t : TakeL xs A r) (h : St w0 S0 A w) : St w0 S0 xs w :=
  h.turn fun S hs => by
    obtain ⟨S1, S2, hu, _, h1, _⟩ := t.star hs
    exact ⟨S1, h1, .refl _ _, fun b hb => .inl ((hu b).2 (.inl hb))⟩
theorem WE.keep {ex : Exit} {xs : List HP} (t : TakeL xs A r) (h : WE w0 S0 n Q ex F xs) : WE w0 S0 n Q ex F A := h.conv fun _ hs => hs.keep t
theorem WE.bare {ex : Exit} (h : WE w0 S0 n Q ex F []) : WE w0 S0 n Q ex F A := h.conv fun _ hs => hs.keep .nil

theorem evs_map {act : Act} (ha : Agr n F act) : ∀ (l : List Operand) (vs : List Value), evs F l = some vs → l.map act.eval = vs := by
  intro l
  induction l with
  | nil => intro vs h; simpa [evs] using h
  | cons t r ih =>
    intro vs h
    simp only [evs] at h
    cases ht : ev F t with
    | none => simp [ht] at h
    | some u =>
      cases hr : evs F r with
      | none => simp [ht, hr] at h
      | some us =>
        simp [ht, hr] at h
        subst h
        simp [ha.eval ht, ih us hr]
/-- A call, told of the operation alone. -/
theorem EffW.callT {f : FuncId} {args : List Operand} {ats : Array TypeId} {vals : List Value} {A' A1 A2 A3 : List HP} {R : Value → List HP → Prop} (hargs : evs F args = some vals)
    (hspec : ∀ w S, (sepL A1).sat S w → (∀ B, Sees w0 S0 B → Sees w S B) → (∀ B r, Take B A2 r → Sees w S B) → Tri P f vals.toArray w S R) (hcall : ∀ w, (callFunc f vals.toArray).run P w = .ok (.enter f vals.toArray) w) (ht : TakeL A1 A A2)
    (hR : ∀ v' A', R v' A' → v' = v ∧ A' = A3) (hA : ∀ w, St w0 S0 (A3 ++ A2) w → St w0 S0 A' w) :
    EffW P w0 S0 n F A A' ⟨dd, .call ⟨.value (.func f), args.toArray, ats⟩, T, pos, af, g⟩ v := by
  refine ⟨fun Q K a w ha hs hK => ?_⟩
  have hvals := evs_map ha args vals hargs
  obtain ⟨S, h1, h2, h3⟩ := hs
  obtain ⟨S1, S2, hu, hdis, h4, h5⟩ := ht.star h1
  have hsp := (hspec w S1 h4 (fun B hB => hB.down h2 h3 fun b hb => (hu b).2 (.inl hb)) (fun B r tB => by
    obtain ⟨S3, S4, hu', hd', h6, h7⟩ := tB.star h5
    exact ⟨S3, h6, fun b hb hb' => hdis b hb' ((hu' b).2 (.inl hb))⟩)).go
  have hrun : (execOp a.eval ⟨dd, .call ⟨.value (.func f), args.toArray, ats⟩, T, pos, af, g⟩).run P w = .ok (.enter f vals.toArray) w := by
    simp [execOp, resolve, Act.eval, Deferred.ofValue, invoke, hvals, hcall]
  unfold Oper.wp
  rw [hrun]
  refine hsp.mono ?_
  rintro e w' ⟨v', A', rfl, hRR, S', h6, h7, h8⟩
  obtain ⟨rfl, rfl⟩ := hR v' A' hRR
  refine hK w' (hA w' ?_)
  have hext : Ext S w w' := ⟨h7.os, h7.tape, h7.output, h7.size, fun b hb hnb => h7.keep b hb fun h => hnb ((hu b).2 (.inl h))⟩
  refine ⟨fun b => S' b ∨ S2 b, sepL_append ⟨S', S2, fun _ => Iff.rfl, fun b hb hb2 => ?_, h6, (sepL A2).loc h5 fun b hb => h7.keep b ((sepL A2).bnd h5 hb) fun h => hdis b h hb⟩, h2.step hext h3, fun b hb => ?_⟩
  · rcases h8 b hb with h | h
    · exact hdis b h hb2
    · have := (sepL A2).bnd h5 hb2; omega
  · rcases hb with hb | hb
    · rcases h8 b hb with h | h
      · exact h3 b ((hu b).2 (.inl h))
      · exact .inr (Nat.le_trans h2.size h)
    · exact h3 b ((hu b).2 (.inr hb))
/-- A call that owns nothing. -/
theorem EvW.callQ {f : FuncId} {args : List Operand} {ats : Array TypeId} {vals : List Value} {R : Value → List HP → Prop} (hargs : evs F args = some vals)
    (hspec : ∀ w S, (sepL []).sat S w → (∀ B, Sees w0 S0 B → Sees w S B) → (∀ B r, Take B A r → Sees w S B) → Tri P f vals.toArray w S R) (hcall : ∀ w, (callFunc f vals.toArray).run P w = .ok (.enter f vals.toArray) w)
    (hR : ∀ v' A', R v' A' → v' = v ∧ A' = []) : EvW P w0 S0 n F A ⟨dd, .call ⟨.value (.func f), args.toArray, ats⟩, T, pos, af, g⟩ v :=
  ⟨(EffW.callT (A' := A) hargs hspec hcall .nil hR (fun _ h => h)).go⟩
theorem EffW.store {A' : List HP} (hx : ev F x = some (ptr bl o)) (hy : ev F y = some v) (hv : v.cells = cs.toArray) (hz : szB P t = some cs.length) (h1 : cs.all (·.oneCell') = true) (hu : UpdC bl o cs A A') :
    EffW P w0 S0 n F A A' ⟨none, .store t x y, T, pos, af, g⟩ undef := by
  obtain ⟨l, l', U, hs, hu⟩ := hu.upd
  obtain ⟨hl, he⟩ := hs.eq
  refine ⟨fun Q K a w ha hst hK => ?_⟩
  obtain ⟨r, t1, _⟩ := hu.take
  obtain ⟨lo, hi, h2, h3⟩ := hst.blk t1
  have hrun : (execOp a.eval ⟨none, .store t x y, T, pos, af, g⟩).run P w = .ok .skip { w with heap := w.heap.setIfInBounds bl (.cells (over l o cs).toArray U (lo, hi)) } := by
    simp [execOp, ha.eval hx, ha.eval hy, runStoreAt hz hv h1 h2 (by simpa using h3) hl]
  unfold Oper.wp
  rw [hrun]
  refine hK _ (hst.write hu (fun lo' hi' h4 _ => ?_) (by rw [he]; exact over_length hl))
  rw [h2] at h4
  injection h4 with h4
  cases h4
  rw [he]; rfl

theorem notInt_sl (h : P.underlying t = some (.slice e)) : notInt P t = true := by unfold notInt; rw [h]
theorem notInt_st (h : P.underlying t = some .string) : notInt P t = true := by unfold notInt; rw [h]
/-- Alike truths. -/
theorem EvW.beqS {c : Bool} (hx : ev F x = some (.bool c)) (hy : ev F y = some (.bool c)) (hu : P.underlying t = some .bool) : EvW P w0 S0 n F A ⟨dd, .binOp .eql t x y ty, T, pos, af, g⟩ (.bool true) := by
  have := EvW.beq (P := P) (w0 := w0) (S0 := S0) (n := n) (A := A) (d := dd) (T := T) (pos := pos) (af := af) (g := g) (ty := ty) hx hy hu
  simpa using this
theorem EvW.bneS {c : Bool} (hx : ev F x = some (.bool c)) (hy : ev F y = some (.bool c)) (hu : P.underlying t = some .bool) : EvW P w0 S0 n F A ⟨dd, .binOp .neq t x y ty, T, pos, af, g⟩ (.bool false) := by
  have := EvW.bne (P := P) (w0 := w0) (S0 := S0) (n := n) (A := A) (d := dd) (T := T) (pos := pos) (af := af) (g := g) (ty := ty) hx hy hu
  simpa using this
/-- A block is a slice of the call's own. -/
theorem WL.toOwn {l : List Value} (len sz : Nat) (ht : Take (.blk bl l.toArray e) A r) (hl : l.length = len * sz) (kk : WL P w0 S0 n ops Q rest F (.own e sz (.slice (some ⟨bl, 0, none⟩) len len) len l :: r)) : WL P w0 S0 n ops Q rest F A :=
  kk.conv fun w hs => hs.mono fun S w h => by
    refine star_mono (ht.star h) (fun S' h' => ?_) fun _ h => h
    have h2 : (HP.blk bl (l ++ []).toArray e).sat S' w := by rw [List.append_nil]; exact h'
    exact blk_own h2 hl (Nat.le_refl _) (by simpa using hl)
theorem WL.ownEq {cs' : List Value} {len' : Nat} (ht : Take (.own e sz v len cs) A r) (hl : len = len') (hc : cs = cs') (kk : WL P w0 S0 n ops Q rest F (.own e sz v len' cs' :: r)) : WL P w0 S0 n ops Q rest F A := by
  subst hc; subst hl
  exact kk.conv fun w hs => hs.mono (A' := .own e sz v len cs :: r) fun S w h => ht.star h
theorem St.below {w w' : World} (h : St w (fun _ => False) A w') : Below w.heap.size w w' := by
  obtain ⟨S, _, hx, _⟩ := h; exact hx.below
/-- A law that answers true. -/
theorem Tri.law {f : FuncId} {args : Array Value} {w : World} {R : Value → List HP → Prop} (h : Tri P f args w (fun _ => False) R) (hR : ∀ v A, R v A → v = .bool true) : Calls P f args w fun e w' => e = .returned (.bool true) ∧ Below w.heap.size w w' :=
  h.go.mono fun e w' ⟨v, A', h1, h2, h3⟩ => ⟨by rw [h1, hR v A' h2], h3.below⟩
end
end Go.BK
