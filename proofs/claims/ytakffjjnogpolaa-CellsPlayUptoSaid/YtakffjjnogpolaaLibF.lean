/- Slices: read (row) and owned (own); append, make, strings and bytes. No program in sight. -/
import Derived.Test.YtakffjjnogpolaaLibE
import Derived.Laws.BytesString
import Derived.Laws.IdiomStrings
namespace Go.BK
open Go.RowKit

/-- v reads as a slice of len elements of sz cells each, the cells cs. -/
def HP.row (sz : Nat) (v : Value) (len : Nat) (cs : List Value) : HP where
  sat S w := cs.length = len * sz ∧ ((∃ p cap, v = .slice p 0 cap ∧ len = 0 ∧ ∀ b, ¬ S b) ∨
    ∃ b off cap c T fr, v = .slice (some ⟨b, off, none⟩) len cap ∧ (∀ x, S x ↔ x = b) ∧ w.heap[b]? = some (.cells c T fr) ∧ (∀ k u, cs[k]? = some u → c[off + k]? = some u) ∧ len ≤ cap)
  loc := fun ⟨hl, h⟩ hk => ⟨hl, h.imp id fun ⟨b, off, cap, c, T, fr, h1, h2, h3, h4⟩ => ⟨b, off, cap, c, T, fr, h1, h2, by rw [hk b ((h2 b).2 rfl)]; exact h3, h4⟩⟩
  bnd := fun {_ _ x} ⟨_, h⟩ hb => by
    rcases h with ⟨_, _, _, _, h⟩ | ⟨b, off, cap, c, T, fr, _, h2, h3, _⟩
    · exact (h _ hb).elim
    · rw [(h2 x).1 hb]; exact lt_of_get h3
/-- v is a slice of the call's own. -/
def HP.own (e : TypeId) (sz : Nat) (v : Value) (len : Nat) (cs : List Value) : HP where
  sat S w := cs.length = len * sz ∧ ((v = .slice none 0 0 ∧ len = 0 ∧ ∀ b, ¬ S b) ∨
    ∃ b cap sp, v = .slice (some ⟨b, 0, none⟩) len cap ∧ len ≤ cap ∧ (cs ++ sp).length = cap * sz ∧ (HP.blk b (cs ++ sp).toArray e).sat S w)
  loc := fun ⟨hl, h⟩ hk => ⟨hl, h.imp id fun ⟨b, cap, sp, h1, h2, h3, h4⟩ => ⟨b, cap, sp, h1, h2, h3, (HP.blk _ _ _).loc h4 hk⟩⟩
  bnd := fun ⟨_, h⟩ hb => by
    rcases h with ⟨_, _, h⟩ | ⟨b, cap, sp, _, _, _, h4⟩
    · exact (h _ hb).elim
    · exact (HP.blk _ _ _).bnd h4 hb
theorem own_row {e sz : Nat} {v : Value} {len : Nat} {cs : List Value} {S : BSet} {w : World} (h : (HP.own e sz v len cs).sat S w) : (HP.row sz v len cs).sat S w := by
  obtain ⟨hl, h⟩ := h
  refine ⟨hl, h.imp (fun ⟨h1, h2, h3⟩ => ⟨none, 0, h1, h2, h3⟩) ?_⟩
  rintro ⟨b, cap, sp, h1, h2, _, h4, lo, hi, h5, _⟩
  refine ⟨b, 0, cap, _, _, _, h1, h4, h5, fun k u hk => ?_, h2⟩
  have h6 := List.getElem?_eq_some_iff.1 hk
  simp [List.getElem?_append, h6.1, h6.2]
theorem blk_row {b : Nat} {T : TypeId} {sz len cap off : Nat} {l cs : List Value} {S : BSet} {w : World} (h : (HP.blk b l.toArray T).sat S w) (hl : cs.length = len * sz) (hc : ∀ k u, cs[k]? = some u → l[off + k]? = some u) (hcap : len ≤ cap) : (HP.row sz (.slice (some ⟨b, off, none⟩) len cap) len cs).sat S w := by
  obtain ⟨h1, lo, hi, h2, _⟩ := h
  exact ⟨hl, .inr ⟨b, off, cap, _, _, _, rfl, h1, h2, fun k u hk => by simpa using hc k u hk, hcap⟩⟩
theorem blk_own {b : Nat} {e : TypeId} {sz len cap : Nat} {cs sp : List Value} {S : BSet} {w : World} (h : (HP.blk b (cs ++ sp).toArray e).sat S w) (hl : cs.length = len * sz) (hc : len ≤ cap) (hs : (cs ++ sp).length = cap * sz) : (HP.own e sz (.slice (some ⟨b, 0, none⟩) len cap) len cs).sat S w :=
  ⟨hl, .inr ⟨b, cap, sp, rfl, hc, hs, h⟩⟩
theorem Sees.mono {w : World} {S : BSet} {B B' : HP} (h : Sees w S B) (k : ∀ R, B.sat R w → B'.sat R w) : Sees w S B' := by
  obtain ⟨R, h1, h2⟩ := h; exact ⟨R, k R h1, h2⟩
theorem Sees.own {w : World} {S : BSet} {e sz : Nat} {v : Value} {len : Nat} {cs : List Value} (h : Sees w S (.own e sz v len cs)) : Sees w S (.row sz v len cs) := h.mono fun _ => own_row
theorem Sees.blkRow {w : World} {S : BSet} {b : Nat} {T : TypeId} {sz len cap off : Nat} {l cs : List Value} (h : Sees w S (.blk b l.toArray T)) (hl : cs.length = len * sz) (hc : ∀ k u, cs[k]? = some u → l[off + k]? = some u) (hcap : len ≤ cap) : Sees w S (.row sz (.slice (some ⟨b, off, none⟩) len cap) len cs) := h.mono fun _ h => blk_row h hl hc hcap
theorem Sees.nilRow {w : World} {S : BSet} {sz : Nat} : Sees w S (.row sz (.slice none 0 0) 0 []) := ⟨fun _ => False, ⟨by simp, .inl ⟨_, _, rfl, rfl, fun _ h => h⟩⟩, fun _ h => h.elim⟩
theorem Sees.row_shape {w : World} {S : BSet} {sz : Nat} {v : Value} {len : Nat} {cs : List Value} (h : Sees w S (.row sz v len cs)) : (∃ p cap, v = .slice p 0 cap ∧ len = 0 ∧ cs = []) ∨ ∃ b off cap, v = .slice (some ⟨b, off, none⟩) len cap ∧ cs.length = len * sz ∧ len ≤ cap := by
  obtain ⟨R, ⟨hl, h⟩, _⟩ := h
  rcases h with ⟨p, cap, h1, h2, _⟩ | ⟨b, off, cap, _, _, _, h1, _, _, _, h5⟩
  · exact .inl ⟨p, cap, h1, h2, by subst h2; simpa using hl⟩
  · exact .inr ⟨b, off, cap, h1, hl, h5⟩
theorem row_cell {sz len cap b off k : Nat} {cs : List Value} {u : Value} (hk : cs[k]? = some u) : ∀ R w, (HP.row sz (.slice (some ⟨b, off, none⟩) len cap) len cs).sat R w → w.cell? ⟨b, off + k, none⟩ = some u := by
  rintro R w ⟨hl, h⟩
  rcases h with ⟨_, _, h, h', _⟩ | ⟨b', off', cap', c, T, fr, h1, _, h3, h4, _⟩
  · subst h'; simp at hl; subst hl; simp at hk
  · cases h1; simp [World.cell?, h3, h4 k u hk]

section
variable {P : Program} {w0 : World} {S0 : BSet} {n : Nat} {F : Fr} {A r : List HP} {ops : Array Oper} {Q : Exit → Act → World → Prop} {rest : List Oper} {d : Nat} {T : TypeId} {pos : String} {af : Array Edge} {x y : Operand} {v u : Value} {t ty e : TypeId} {k : IntKind} {a b : Int} {cs ys : List Value} {bl o sz len m : Nat}
  {dd : Option Tmp} {g : Option (Nat × Bool)}

theorem EvW.loadRow {off cap j : Nat} {q : Value} (hx : ev F x = some (ptr bl o)) (hs : scalB P t = true) (hB : Sees w0 S0 (.row sz (.slice (some ⟨bl, off, none⟩) len cap) len cs)) (ho : o = off + j) (hc : cs[j]? = some q) : EvW P w0 S0 n F A ⟨dd, .load t x, T, pos, af, g⟩ q := by
  subst ho; exact .loadSees hx hs hB (row_cell hc)
theorem EvW.lenOwn (hx : ev F x = some v) (hu : P.underlying t = some (.slice e)) (ht : Take (.own ty sz v len cs) A r) : EvW P w0 S0 n F A ⟨dd, .call ⟨.builtin .len, #[x], #[t]⟩, T, pos, af, g⟩ (i64 len) :=
  .pure fun a' w ha hst => by
    obtain ⟨S, _, h⟩ := hst.take ht
    rcases h with ⟨h1, h2, _⟩ | ⟨b, cap, sp, h1, _⟩
    · subst h1; subst h2; simp [execOp, resolve, invoke, builtin, Builtin.len_, ha.eval hx, run_underlying hu, goInt]
    · subst h1; simp [execOp, resolve, invoke, builtin, Builtin.len_, ha.eval hx, run_underlying hu, goInt]
theorem EvW.lenRow (hx : ev F x = some v) (hu : P.underlying t = some (.slice e)) (hB : Sees w0 S0 (.row sz v len cs)) : EvW P w0 S0 n F A ⟨dd, .call ⟨.builtin .len, #[x], #[t]⟩, T, pos, af, g⟩ (i64 len) :=
  .pure fun a' w ha _ => by
    rcases hB.row_shape with ⟨p, cap, h1, h2, _⟩ | ⟨b, off, cap, h1, _⟩
    · subst h1; subst h2; simp [execOp, resolve, invoke, builtin, Builtin.len_, ha.eval hx, run_underlying hu, goInt]
    · subst h1; simp [execOp, resolve, invoke, builtin, Builtin.len_, ha.eval hx, run_underlying hu, goInt]

/-- What an append appends: m elements, the cells ys. -/
def Adds (P : Program) (w0 : World) (S0 : BSet) (A : List HP) (sz : Nat) (u : Value) (m : Nat) (ys : List Value) : Prop :=
  ys.length = m * sz ∧ ys.all (·.oneCell') = true ∧ ∀ w, St w0 S0 A w → (Builtin.lenOf u).run P w = .ok m w ∧ (Builtin.firstCells sz m u).run P w = .ok ys.toArray w
theorem runFirst {w : World} {sz m b off cap : Nat} {ys : List Value} (hl : ys.length = m * sz) (hc : ∀ j q, ys[j]? = some q → w.cell? ⟨b, off + j, none⟩ = some q) : (Builtin.firstCells sz m (.slice (some ⟨b, off, none⟩) m cap)).run P w = .ok ys.toArray w := by
  have := run_firstCells_some (P := P) w sz m ⟨b, off, none⟩ m cap ys hl (fun j q hj => by rw [add_at]; exact hc j q hj)
  simpa using this
theorem adds_row (h : Sees w0 S0 (.row sz u m ys)) (h1 : ys.all (·.oneCell') = true) : Adds P w0 S0 A sz u m ys := by
  refine ⟨?_, h1, fun w hst => ?_⟩
  · obtain ⟨R, ⟨hl, _⟩, _⟩ := h; exact hl
  obtain ⟨R, hl, h⟩ := h.at hst
  rcases h with ⟨p, cap, h1, h2, _⟩ | ⟨b, off, cap, c, T, fr, h1, _, h3, h4, _⟩
  · subst h1; subst h2; simp at hl; subst hl; cases p <;> simp [Builtin.lenOf, Builtin.firstCells, loadCells, loadCellsFrom]
  · subst h1
    refine ⟨by simp [Builtin.lenOf], runFirst hl fun j q hj => ?_⟩
    simp [World.cell?, h3, h4 j q hj]
theorem adds_own {ee : TypeId} (ht : Take (.own ee sz u m ys) A r) (hl : ys.length = m * sz) (h1 : ys.all (·.oneCell') = true) : Adds P w0 S0 A sz u m ys := by
  refine ⟨hl, h1, fun w hst => ?_⟩
  obtain ⟨S, h⟩ := hst.take ht
  obtain ⟨hl, h⟩ := own_row h
  rcases h with ⟨p, cap, h1, h2, _⟩ | ⟨b, off, cap, c, T, fr, h1, _, h3, h4, _⟩
  · subst h1; subst h2; simp at hl; subst hl; cases p <;> simp [Builtin.lenOf, Builtin.firstCells, loadCells, loadCellsFrom]
  · subst h1
    refine ⟨by simp [Builtin.lenOf], runFirst hl fun j q hj => ?_⟩
    simp [World.cell?, h3, h4 j q hj]
theorem adds_blk {cap : Nat} {ee : TypeId} (ht : Take (.blk bl ys.toArray ee) A r) (hl : ys.length = m * sz) (h1 : ys.all (·.oneCell') = true) : Adds P w0 S0 A sz (.slice (some ⟨bl, 0, none⟩) m cap) m ys := by
  refine ⟨hl, h1, fun w hst => ⟨by simp [Builtin.lenOf], runFirst hl fun j q hj => ?_⟩⟩
  have := (hst.blk ht).cell (o := j) (v := q) (by simpa using hj)
  simpa using this
theorem adds_nil : Adds P w0 S0 A sz (.slice none 0 0) 0 [] := ⟨by simp, rfl, fun w _ => by simp [Builtin.lenOf, Builtin.firstCells]⟩
abbrev byt (c : UInt8) : Value := .int .u8 c.toNat
theorem all_one {l : List UInt8} : (l.map byt).all (·.oneCell') = true := by simp [Value.oneCell']
theorem adds_str {l : List UInt8} : Adds P w0 S0 A 1 (str l) l.length (l.map byt) := by
  refine ⟨by simp, all_one, fun w _ => ⟨by simp [Builtin.lenOf, sizeMk], ?_⟩⟩
  simp only [Builtin.firstCells, extract_eq, List.take_length, List.drop_zero]
  simp

/-- The type of what is appended: a slice, or a string. -/
def notInt (P : Program) (t : TypeId) : Bool :=
  match P.underlying t with
  | some (.slice _) | some .string => true
  | _ => false
theorem notInt_or {P : Program} {t : TypeId} (h : notInt P t = true) : (∃ e, P.underlying t = some (.slice e)) ∨ P.underlying t = some .string := by
  unfold notInt at h
  split at h
  · rename_i e he; exact .inl ⟨e, he⟩
  · rename_i he; exact .inr he
  · simp at h
theorem runStoreOne {w : World} {l cs : List Value} {lo hi : Nat} (h : w.heap[bl]? = some (.cells l.toArray T (lo, hi))) (hf : ∀ x, x < l.length → ¬ (lo ≤ x ∧ x < hi)) (h1 : cs.all (·.oneCell') = true) (hl : o + cs.length ≤ l.length) :
    (storeCells ⟨bl, o, none⟩ cs).run P w = .ok () { w with heap := w.heap.setIfInBounds bl (.cells (over l o cs).toArray T (lo, hi)) } := by
  have := runStoreCells (P := P) cs o 0 l w h hf h1 (by omega)
  simpa using this
theorem runAppendIn {w w' : World} {cap : Nat} (hu : P.underlying t = some (.slice e)) (hz : szB P e = some sz) (hni : notInt P ty = true) (h2 : (Builtin.lenOf u).run P w = .ok m w) (hfit : len + m ≤ cap)
    (h3 : (Builtin.firstCells sz m u).run P w = .ok ys.toArray w) (hst : (storeCells ⟨bl, len * sz, none⟩ ys).run P w = .ok () w') :
    (Builtin.append_ #[t, ty] T #[.slice (some ⟨bl, 0, none⟩) len cap, u]).run P w = .ok (.slice (some ⟨bl, 0, none⟩) (len + m) cap) w' := by
  have ha : Addr.add ⟨bl, 0, none⟩ (len * sz) = ⟨bl, len * sz, none⟩ := by rw [add_at]; simp
  rcases notInt_or hni with ⟨_, hdd⟩ | hdd <;> simp [Builtin.append_, run_underlying hu, runSz hz, run_underlying hdd, h2, hfit, h3, ha, hst]
theorem runAppendNil {w : World} (hu : P.underlying t = some (.slice e)) (hz : szB P e = some sz) (hni : notInt P ty = true) (h2 : (Builtin.lenOf u).run P w = .ok 0 w)
    (h3 : (Builtin.firstCells sz 0 u).run P w = .ok ys.toArray w) :
    (Builtin.append_ #[t, ty] T #[.slice none 0 0, u]).run P w = .ok (.slice none 0 0) w := by
  rcases notInt_or hni with ⟨_, hdd⟩ | hdd <;> simp [Builtin.append_, run_underlying hu, runSz hz, run_underlying hdd, h2, h3]
theorem runAsk {w : World} {q : Nat} : (askRoom q).run P w = .ok () w := by
  unfold askRoom; split
  · rfl
  · rfl
theorem runAppendGrow {w : World} {p : Option Addr} {cap nc : Nat} {inf : TypeInfo} {z : Value} {sp : List Value} (hu : P.underlying t = some (.slice e)) (hz : szB P e = some sz) (hni : notInt P ty = true)
    (hinf : P.info? e = some inf) (hb0 : ¬ inf.bytes = 0) (hzv : zvB P e = some z) (h2 : (Builtin.lenOf u).run P w = .ok m w) (hfit : cap < len + m) (hnc : (Question.appendCap (len + m) cap e).cut (w.tape w.drawn (Question.appendCap (len + m) cap e)) = nc)
    (hroom : (len + m) * inf.bytes ≤ 140737488355328) (hold : (Builtin.firstCells sz len (.slice p len cap)).run P w.drew = .ok cs.toArray w.drew) (h3 : (Builtin.firstCells sz m u).run P w.drew = .ok ys.toArray w.drew)
    (hsp : Builtin.zeroCells z.cells (nc - (len + m)) = sp.toArray) :
    (Builtin.append_ #[t, ty] T #[.slice p len cap, u]).run P w = .ok (.slice (some ⟨w.heap.size, 0, none⟩) (len + m) nc) (w.drew.alloc (.cells ((cs ++ ys) ++ sp).toArray e)) := by
  have hfit2 : ¬ (2 ^ 48 < Builtin.nextslicecap (len + m) cap * inf.bytes) := by
    have := growslice_fits (bytes := inf.bytes) hfit hroom; omega
  have hle : ¬ (len + m ≤ cap) := by omega
  have hti : ∀ w' : World, (typeInfo e).run P w' = .ok inf w' := fun w' => run_typeInfo w' hinf
  have hnw : ∀ (w' : World) (c : Array Value), (newRow e c).run P w' = .ok ⟨w'.heap.size, 0, none⟩ (w'.alloc (.cells c e)) := fun w' c => by simp [newRow]
  rcases notInt_or hni with ⟨_, hdd⟩ | hdd <;> simp [Builtin.append_, run_underlying hu, runSz hz, run_underlying hdd, h2, hle, hti, hb0, hfit2, Question.forced, hnc, hold, h3, runZv hzv, hsp, hnw]
theorem runCallB {w w' : World} {bi : Builtin} {args : Array Operand} {ts : Array TypeId} {act : Act} {vals : Array Value} (hv : args.map act.eval = vals) (h : (builtin bi ts T (args.map fun | .const _ => true | _ => false) vals).run P w = .ok (.value v) w') :
    (execOp act.eval ⟨dd, .call ⟨.builtin bi, args, ts⟩, T, pos, af, g⟩).run P w = .ok (.value v) w' := by
  simp only [execOp, resolve, hv, Sem.run_bind, Sem.run_pure, Result.andThen, invoke]
  exact h
theorem WL.append {bts : Nat} {z : Value} (hn : Nat.blt d n = true) (hx : ev F x = some v) (hy : ev F y = some u) (hu : P.underlying t = some (.slice e)) (hz : szB P e = some sz) (hb : byB P e = some bts) (hzv : zvB P e = some z) (hzs : Nat.beq z.cells.size sz = true) (hni : notInt P ty = true)
    (hb0 : Nat.beq bts 0 = false) (ht : Take (.own e sz v len cs) A r) (ha : Adds P w0 S0 A sz u m ys) (hroom : (len + m) * bts ≤ 140737488355328)
    (k : ∀ v', WL P w0 S0 n ops Q rest ((d, v') :: F) (.own e sz v' (len + m) (cs ++ ys) :: r)) :
    WL P w0 S0 n ops Q (⟨some d, .call ⟨.builtin .append, #[x, y], #[t, ty]⟩, T, pos, af, none⟩ :: rest) F A := by
  refine .step (fun a w haa hst K hK => ?_) rfl
  obtain ⟨hyl, hy1, hyr⟩ := ha
  obtain ⟨hy2, hy3⟩ := hyr w hst
  have hzs := Nat.eq_of_beq_eq_true hzs
  obtain ⟨inf, hinf, hby⟩ : ∃ inf, P.info? e = some inf ∧ inf.bytes = bts := by
    unfold byB at hb
    cases h : P.info? e with
    | none => simp [h] at hb
    | some i => simp [h] at hb; exact ⟨i, rfl, hb⟩
  subst hby
  have hb0' : ¬ inf.bytes = 0 := Nat.ne_of_beq_eq_false hb0
  have fin : ∀ v' w', (Builtin.append_ #[t, ty] T #[v, u]).run P w = .ok v' w' → St w0 S0 (.own e sz v' (len + m) (cs ++ ys) :: r) w' → Oper.wp P ⟨some d, .call ⟨.builtin .append, #[x, y], #[t, ty]⟩, T, pos, af, none⟩ a w K Q := by
    intro v' w' hr hs'
    unfold Oper.wp
    rw [runCallB (vals := #[v, u]) (v := v') (w' := w') (by simp [haa.eval hx, haa.eval hy]) (by simp [builtin, hr])]
    exact hK _ _ ((k v').go _ _ (haa.put (by simpa using hn) _) hs')
  obtain ⟨S, h1, h2, h3⟩ := id hst
  obtain ⟨S1, S2, hun, hdis, ⟨hcl, h4⟩, h5⟩ := ht.star h1
  have grow : ∀ p sCap, v = .slice p len sCap → sCap < len + m → (∀ w', w'.heap = w.heap → (Builtin.firstCells sz len v).run P w' = .ok cs.toArray w') → Oper.wp P ⟨some d, .call ⟨.builtin .append, #[x, y], #[t, ty]⟩, T, pos, af, none⟩ a w K Q := by
    intro p sCap hv hlt hfc
    subst hv
    have hge : len + m ≤ (Question.appendCap (len + m) sCap e).cut (w.tape w.drawn (Question.appendCap (len + m) sCap e)) := by simp [Question.cut]
    generalize hnc : (Question.appendCap (len + m) sCap e).cut (w.tape w.drawn (Question.appendCap (len + m) sCap e)) = nc at hge
    obtain ⟨sp, hsp1, hsp2⟩ : ∃ sp : List Value, Builtin.zeroCells z.cells (nc - (len + m)) = sp.toArray ∧ sp.length = (nc - (len + m)) * sz :=
      ⟨(Builtin.zeroCells z.cells (nc - (len + m))).toList, by simp, by simp [Builtin.zeroCells, hzs]⟩
    have hD : St w0 S0 A w.drew := hst.drew _
    refine fin _ _ (runAppendGrow hu hz hni hinf hb0' hzv hy2 hlt hnc hroom (hfc _ rfl) (hyr _ hD).2 hsp1) ?_
    have hN := (hD.drop ht).newBlk ((cs ++ ys) ++ sp).toArray e
    refine hN.mono fun S' w' hs' => star_mono hs' (fun S'' h => blk_own h (by simp [hcl, hyl, Nat.add_mul]) hge ?_) fun _ h => h
    simp only [List.length_append, hcl, hyl, hsp2, ← Nat.add_mul]
    congr 1; omega
  rcases h4 with ⟨h4, h5', h6⟩ | ⟨b, cap, sp, h4, h5', h6, h7⟩
  · subst h4; subst h5'
    simp at hcl; subst hcl
    by_cases hm : m = 0
    · subst hm
      simp at hyl; subst hyl
      exact fin _ w (runAppendNil hu hz hni hy2 hy3) ⟨S, ⟨S1, S2, hun, hdis, ⟨by simp, .inl ⟨rfl, rfl, h6⟩⟩, h5⟩, h2, h3⟩
    · exact grow none 0 rfl (by omega) (fun w' _ => by simp [Builtin.firstCells])
  · by_cases hfit : len + m ≤ cap
    · subst h4
      obtain ⟨hS1, lo, hi, hh, hfr⟩ := h7
      have hle : len * sz + ys.length ≤ (cs ++ sp).length := by rw [h6, hyl, ← Nat.add_mul]; exact Nat.mul_le_mul_right _ hfit
      have hstr := runStoreOne (P := P) (o := len * sz) hh (by simpa using hfr) hy1 hle
      have hov : over (cs ++ sp) (len * sz) ys = (cs ++ ys) ++ sp.drop ys.length := by
        unfold over
        rw [← hcl]
        simp
      rw [hov] at hstr
      refine fin _ _ (runAppendIn hu hz hni hy2 hfit hy3 hstr) ?_
      have hA : St w0 S0 (.blk b (cs ++ sp).toArray e :: r) w := ⟨S, ⟨S1, S2, hun, hdis, ⟨hS1, lo, hi, hh, hfr⟩, h5⟩, h2, h3⟩
      have hupd : St w0 S0 (.blk b ((cs ++ ys) ++ sp.drop ys.length).toArray e :: r) { w with heap := w.heap.setIfInBounds b (.cells ((cs ++ ys) ++ sp.drop ys.length).toArray e (lo, hi)) } := by
        refine hA.write .head (fun lo' hi' h8 _ => ?_) (by rw [← hov]; exact over_length hle)
        rw [hh] at h8
        injection h8 with h8
        cases h8
        rfl
      exact hupd.mono fun S' w' hs' => star_mono hs' (fun S'' h => blk_own h (by simp [hcl, hyl, Nat.add_mul]) hfit (by rw [← hov, over_length hle, h6])) fun _ h => h
    · exact grow (some ⟨b, 0, none⟩) cap h4 (by omega) (fun w' hw' => by
        subst h4
        obtain ⟨hS1, lo, hi, hh, hfr⟩ := h7
        refine runFirst hcl fun j q hj => ?_
        have h6 := List.getElem?_eq_some_iff.1 hj
        simp [World.cell?, hw', hh, List.getElem?_append, h6.1, h6.2])
end
end Go.BK
