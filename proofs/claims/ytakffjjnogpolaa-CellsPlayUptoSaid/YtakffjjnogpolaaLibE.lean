/- The operations that write or make memory. No program in sight. -/
import Derived.Test.YtakffjjnogpolaaLibD
namespace Go.BK
open Go.RowKit

/-- Cells from a place on are others. -/
inductive SetMany : List Value → Nat → List Value → List Value → Prop
  | nil {l : List Value} : SetMany l 0 [] l
  | cons {x v : Value} {r r' cs : List Value} : SetMany r 0 cs r' → SetMany (x :: r) 0 (v :: cs) (v :: r')
  | succ {x : Value} {o : Nat} {r r' cs : List Value} : SetMany r o cs r' → SetMany (x :: r) (o + 1) cs (x :: r')
theorem SetMany.eq {l l' cs : List Value} {o : Nat} (h : SetMany l o cs l') : o + cs.length ≤ l.length ∧ l' = l.take o ++ cs ++ l.drop (o + cs.length) := by
  induction h with
  | nil => simp
  | cons _ ih => obtain ⟨h1, h2⟩ := ih; refine ⟨by simp; omega, ?_⟩; subst h2; simp
  | succ _ ih => obtain ⟨h1, h2⟩ := ih; refine ⟨by simp; omega, ?_⟩; subst h2; simp [Nat.add_right_comm]
inductive UpdC (bl o : Nat) (cs : List Value) : List HP → List HP → Prop
  | head {l l' : List Value} {T : TypeId} {r : List HP} : SetMany l o cs l' → UpdC bl o cs (.blk bl l.toArray T :: r) (.blk bl l'.toArray T :: r)
  | tail {y : HP} {r r' : List HP} : UpdC bl o cs r r' → UpdC bl o cs (y :: r) (y :: r')
theorem UpdC.upd {bl o : Nat} {cs : List Value} {A A' : List HP} (h : UpdC bl o cs A A') : ∃ l l' T, SetMany l o cs l' ∧ Upd bl T l.toArray l'.toArray A A' := by
  induction h with
  | head h => exact ⟨_, _, _, h, .head⟩
  | tail _ ih => obtain ⟨l, l', T, h1, h2⟩ := ih; exact ⟨l, l', T, h1, .tail h2⟩

def over (l : List Value) (o : Nat) (cs : List Value) : List Value := l.take o ++ cs ++ l.drop (o + cs.length)
theorem over_length {l cs : List Value} {o : Nat} (h : o + cs.length ≤ l.length) : (over l o cs).length = l.length := by
  unfold over; simp; omega
theorem over_cons {l cs : List Value} {o : Nat} {v : Value} (h : o + (cs.length + 1) ≤ l.length) : over (l.set o v) (o + 1) cs = over l o (v :: cs) := by
  unfold over
  have e1 : (l.set o v).take (o + 1) = l.take o ++ [v] := by
    rw [List.take_set, List.take_succ_eq_append_getElem (by omega)]
    rw [List.set_append_right _ _ (by simp; omega)]
    simp [Nat.min_eq_left (by omega : o ≤ l.length)]
  rw [e1, List.drop_set_of_lt (by omega)]
  simp [Nat.add_assoc, Nat.add_comm 1]

section runs
variable {P : Program}
theorem add_at (bl o i : Nat) : Addr.add ⟨bl, o, none⟩ i = ⟨bl, o + i, none⟩ := by
  unfold Addr.add; split
  · rename_i e; subst e; rfl
  · rfl
theorem setSelf {α : Type} {a : Array α} {i : Nat} {x : α} (h : a[i]? = some x) : a.setIfInBounds i x = a := by
  apply Array.ext_getElem?
  intro j
  rw [Array.getElem?_setIfInBounds]
  by_cases e : i = j
  · subst e; rw [if_pos rfl, if_pos (lt_of_get h), h]
  · simp [e]
theorem runStoreCells {bl : Nat} {T : TypeId} {lo hi : Nat} : ∀ (cs : List Value) (o i : Nat) (l : List Value) (w : World), w.heap[bl]? = some (.cells l.toArray T (lo, hi)) → (∀ x, x < l.length → ¬ (lo ≤ x ∧ x < hi)) →
    cs.all (·.oneCell') = true → o + i + cs.length ≤ l.length → (storeCells ⟨bl, o, none⟩ cs i).run P w = .ok () { w with heap := w.heap.setIfInBounds bl (.cells (over l (o + i) cs).toArray T (lo, hi)) } := by
  intro cs
  induction cs with
  | nil =>
    intro o i l w h _ _ _
    have e : over l (o + i) [] = l := by simp [over]
    rw [e, setSelf h]
    rfl
  | cons v cs ih =>
    intro o i l w h hf h1 hl
    have hb := lt_of_get h
    have hg : w.heap[bl] = .cells l.toArray T (lo, hi) := by rw [Array.getElem?_eq_getElem hb] at h; exact Option.some.inj h
    simp only [List.all_cons, Bool.and_eq_true] at h1
    simp only [List.length_cons] at hl
    have hlt : o + i < l.length := by omega
    have hcell : w.cell? ⟨bl, o + i, none⟩ = some l[o + i] := by simp [World.cell?, h, hlt]
    have hfr : w.frozen? ⟨bl, o + i, none⟩ = false := by
      have := hf (o + i) hlt
      simp only [World.frozen?, h]; simpa using this
    have hset : w.setCell ⟨bl, o + i, none⟩ v = { w with heap := w.heap.setIfInBounds bl (.cells (l.set (o + i) v).toArray T (lo, hi)) } := by
      simp only [World.setCell, Option.isSome_none, Bool.false_eq_true, ↓reduceIte]
      congr 1
      apply Array.ext_getElem?
      intro j
      rw [Array.getElem?_modify, Array.getElem?_setIfInBounds]
      by_cases e : bl = j
      · subst e; simp [hb, hg]
      · simp [e]
    simp only [storeCells, Sem.run_bind]
    rw [add_at, run_store P w _ v .plain h1.1]
    simp only [hcell, hfr, Bool.false_eq_true, ↓reduceIte, Result.andThen, hset]
    rw [ih o (i + 1) (l.set (o + i) v) _ (by simp [hb]) (by simpa using hf) h1.2 (by simp; omega)]
    have := over_cons (l := l) (cs := cs) (o := o + i) (v := v) (by omega)
    rw [show o + (i + 1) = o + i + 1 from by omega, this]
    simp
theorem runStoreAt {t : TypeId} {bl o : Nat} {T : TypeId} {lo hi : Nat} {l cs : List Value} {v : Value} {w : World} (hz : szB P t = some cs.length) (hv : v.cells = cs.toArray) (h1 : cs.all (·.oneCell') = true) (h : w.heap[bl]? = some (.cells l.toArray T (lo, hi)))
    (hf : ∀ x, x < l.length → ¬ (lo ≤ x ∧ x < hi)) (hl : o + cs.length ≤ l.length) : (Instr.storeAt t (ptr bl o) v).run P w = .ok () { w with heap := w.heap.setIfInBounds bl (.cells (over l o cs).toArray T (lo, hi)) } := by
  have := runStoreCells (P := P) cs o 0 l w h hf h1 (by omega)
  unfold Instr.storeAt
  simp [Instr.sureAddr, storeVar, runSz hz, hv, this]
end runs

section
variable {P : Program} {w0 : World} {S0 : BSet} {n : Nat} {F : Fr} {A A' : List HP} {ops : Array Oper} {Q : Exit → Act → World → Prop} {rest : List Oper} {d : Nat} {T : TypeId} {pos : String} {af : Array Edge} {x y : Operand} {v : Value} {t ty : TypeId} {k : IntKind} {a b : Int} {cs : List Value} {bl o : Nat}

theorem WL.store (hx : ev F x = some (ptr bl o)) (hy : ev F y = some v) (hv : v.cells = cs.toArray) (hz : szB P t = some cs.length) (h1 : cs.all (·.oneCell') = true) (hu : UpdC bl o cs A A') (k : WL P w0 S0 n ops Q rest F A') :
    WL P w0 S0 n ops Q (⟨none, .store t x y, T, pos, af, none⟩ :: rest) F A := by
  obtain ⟨l, l', U, hs, hu⟩ := hu.upd
  obtain ⟨hl, he⟩ := hs.eq
  refine .step (fun a w ha hst K hK => ?_) rfl
  obtain ⟨r, t1, _⟩ := hu.take
  obtain ⟨lo, hi, h2, h3⟩ := hst.blk t1
  have hrun : (execOp a.eval ⟨none, .store t x y, T, pos, af, none⟩).run P w = .ok .skip { w with heap := w.heap.setIfInBounds bl (.cells (over l o cs).toArray U (lo, hi)) } := by
    simp [execOp, ha.eval hx, ha.eval hy, runStoreAt hz hv h1 h2 (by simpa using h3) hl]
  unfold Oper.wp
  rw [hrun]
  refine hK _ _ (k.go _ _ ha (hst.write hu (fun lo' hi' h4 _ => ?_) (by rw [he]; exact over_length hl)))
  rw [h2] at h4
  injection h4 with h4
  cases h4
  rw [he]; rfl
theorem WL.storeAt {l : List Value} {U : TypeId} (hx : ev F x = some (ptr bl o)) (hy : ev F y = some v) (hv : v.cells = cs.toArray) (hz : szB P t = some cs.length) (h1 : cs.all (·.oneCell') = true) (hu : Upd bl U l.toArray (over l o cs).toArray A A') (hl : o + cs.length ≤ l.length) (k : WL P w0 S0 n ops Q rest F A') :
    WL P w0 S0 n ops Q (⟨none, .store t x y, T, pos, af, none⟩ :: rest) F A := by
  refine .step (fun a w ha hst K hK => ?_) rfl
  obtain ⟨r, t1, _⟩ := hu.take
  obtain ⟨lo, hi, h2, h3⟩ := hst.blk t1
  have hrun : (execOp a.eval ⟨none, .store t x y, T, pos, af, none⟩).run P w = .ok .skip { w with heap := w.heap.setIfInBounds bl (.cells (over l o cs).toArray U (lo, hi)) } := by
    simp [execOp, ha.eval hx, ha.eval hy, runStoreAt hz hv h1 h2 (by simpa using h3) hl]
  unfold Oper.wp
  rw [hrun]
  refine hK _ _ (k.go _ _ ha (hst.write hu (fun lo' hi' h4 _ => ?_) (over_length hl)))
  rw [h2] at h4
  injection h4 with h4
  cases h4
  rfl
theorem WL.box {el : TypeId} (hn : Nat.blt d n = true) (hx : ev F x = some v) (hv : v.cells = cs.toArray) (k : ∀ bl, WL P w0 S0 n ops Q rest ((d, ptr bl 0) :: F) (.blk bl cs.toArray el :: A)) :
    WL P w0 S0 n ops Q (⟨some d, .box el x, T, pos, af, none⟩ :: rest) F A := by
  refine .step (fun a w ha hst K hK => ?_) rfl
  have hrun : (execOp a.eval ⟨some d, .box el x, T, pos, af, none⟩).run P w = .ok (.value (ptr w.heap.size 0)) (w.alloc (.cells cs.toArray el)) := by
    simp [execOp, ha.eval hx, Instr.box, newVar, newRow, hv]
  unfold Oper.wp
  rw [hrun]
  exact hK _ _ ((k _).go _ _ (ha.put (by simpa using hn) _) (hst.newBlk _ _))
theorem WL.alloc {el : TypeId} {z : Value} (hn : Nat.blt d n = true) (hz : zvB P el = some z) (hv : z.cells = cs.toArray) (k : ∀ bl, WL P w0 S0 n ops Q rest ((d, ptr bl 0) :: F) (.blk bl cs.toArray el :: A)) :
    WL P w0 S0 n ops Q (⟨some d, .alloc el, T, pos, af, none⟩ :: rest) F A := by
  refine .step (fun a w ha hst K hK => ?_) rfl
  have hrun : (execOp a.eval ⟨some d, .alloc el, T, pos, af, none⟩).run P w = .ok (.value (ptr w.heap.size 0)) (w.alloc (.cells cs.toArray el)) := by
    simp [execOp, Instr.alloc, runZv hz, newVar, newRow, hv]
  unfold Oper.wp
  rw [hrun]
  exact hK _ _ ((k _).go _ _ (ha.put (by simpa using hn) _) (hst.newBlk _ _))

/-- A slice's cells: those of its elements, one behind the other. -/
inductive Flat (sz : Nat) : List Value → List Value → Prop
  | nil : Flat sz [] []
  | cons {v : Value} {vs c cs : List Value} : v.cells = c.toArray → c.length = sz → Flat sz vs cs → Flat sz (v :: vs) (c ++ cs)
theorem Flat.one {v : Value} {vs cs : List Value} (h : v.oneCell' = true) (k : Flat 1 vs cs) : Flat 1 (v :: vs) (v :: cs) := .cons (c := [v]) (cells_one h) rfl k
theorem foldl_set (c : List Value) : ∀ (off j : Nat) (l : List Value), off + j + c.length ≤ l.length →
    ((c.zipIdx j).foldl (fun (cs : Array Value) (p : Value × Nat) => cs.setIfInBounds (off + p.2) p.1) l.toArray) = (over l (off + j) c).toArray := by
  induction c with
  | nil => intro off j l _; simp [over]
  | cons v c ih =>
    intro off j l h
    simp only [List.length_cons] at h
    simp only [List.zipIdx_cons, List.foldl_cons]
    have : l.toArray.setIfInBounds (off + j) v = (l.set (off + j) v).toArray := by simp
    rw [this, ih off (j + 1) (l.set (off + j) v) (by simp; omega), show off + (j + 1) = off + j + 1 from by omega, over_cons (by omega)]
theorem fill_flat {sz : Nat} {vs cs : List Value} (h : Flat sz vs cs) : ∀ (j : Nat) (l : List Value), l.length = (j + vs.length) * sz →
    Instr.fill (fun i => some (i * sz, sz)) l.toArray ((vs.zipIdx j).map fun p => (p.2, p.1)) = some (l.take (j * sz) ++ cs).toArray := by
  induction h with
  | nil => intro j l hl; simp at hl; simp [Instr.fill, ← hl]
  | @cons v vs c cs hv hc hf ih =>
    intro j l hl
    simp only [List.length_cons] at hl
    have hl1 : j * sz + sz ≤ l.length := by
      rw [hl, show j + (vs.length + 1) = (j + 1) + vs.length from by omega, Nat.add_mul, Nat.add_mul, Nat.one_mul]; omega
    simp only [List.zipIdx_cons, List.map_cons, Instr.fill, hv, List.size_toArray, hc, ne_eq, not_true_eq_false, decide_false, Bool.false_or, decide_eq_true_eq]
    rw [if_neg (by omega)]
    have hz : (c.toArray.zipIdx.foldl (fun cs x => cs.setIfInBounds (j * sz + x.2) x.1) l.toArray) = (over l (j * sz) c).toArray := by
      have := foldl_set c (j * sz) 0 l (by omega)
      simpa using this
    have hz' : (c.toArray.zipIdx.foldl (fun (cs : Array Value) (x : Value × Nat) => match x with | (c, k) => cs.setIfInBounds (j * sz + k) c) l.toArray) = (over l (j * sz) c).toArray := hz
    rw [hz', ih (j + 1) _ (by rw [over_length (by omega)]; rw [hl]; congr 1; omega)]
    congr 2
    have e : (j + 1) * sz = j * sz + sz := by rw [Nat.add_mul, Nat.one_mul]
    rw [e]
    unfold over
    rw [List.take_append_of_le_length (by simp; omega), List.take_of_length_le (by simp; omega)]
    simp
theorem Flat.length {sz : Nat} {vs cs : List Value} (h : Flat sz vs cs) : cs.length = vs.length * sz := by
  induction h with
  | nil => simp
  | cons _ hc _ ih => simp [hc, ih, Nat.add_mul]; omega
theorem WL.buildSlice {parts : List (Nat × Operand)} {len : Nat} {e : TypeId} {sz : Nat} {z : Value} {vs : List Value} (hn : Nat.blt d n = true) (hu : P.underlying t = some (.slice e)) (hz : szB P e = some sz) (hzv : zvB P e = some z) (hzs : Nat.beq z.cells.size sz = true)
    (hi : parts.map (·.1) = List.range len) (hvs : evs F (parts.map (·.2)) = some vs) (hf : Flat sz vs cs) (hlen : Nat.beq vs.length len = true) (hsmall : Nat.ble (len * sz) (2 ^ 24) = true)
    (k : ∀ bl, WL P w0 S0 n ops Q rest ((d, .slice (some ⟨bl, 0, none⟩) len len) :: F) (.blk bl cs.toArray e :: A)) :
    WL P w0 S0 n ops Q (⟨some d, .buildSlice t len parts.toArray, T, pos, af, none⟩ :: rest) F A := by
  have hlen := Nat.eq_of_beq_eq_true hlen
  have hzs := Nat.eq_of_beq_eq_true hzs
  have hsmall := Nat.le_of_ble_eq_true hsmall
  refine .step (fun a w ha hst K hK => ?_) rfl
  have hvals : ∀ (l : List (Nat × Operand)) (vs : List Value), evs F (l.map (·.2)) = some vs → l.map (fun p => (p.1, a.eval p.2)) = (l.map (·.1)).zip vs := by
    intro l
    induction l with
    | nil => intro vs h; simp [evs] at h; simp [h]
    | cons p r ih =>
      intro vs h
      simp only [List.map_cons, evs] at h
      cases ht : ev F p.2 with
      | none => simp [ht] at h
      | some u =>
        cases hr : evs F (r.map (·.2)) with
        | none => simp [ht, hr] at h
        | some us => simp [ht, hr] at h; subst h; simp [ha.eval ht, ih us hr]
  have hzip : (List.range len).zip vs = (vs.zipIdx 0).map fun p => (p.2, p.1) := by
    have key : ∀ (vs : List Value) (j : Nat), (List.range' j vs.length).zip vs = (vs.zipIdx j).map fun p => (p.2, p.1) := by
      intro vs
      induction vs with
      | nil => intro j; rfl
      | cons v vs ih => intro j; simp [List.range'_succ, ih (j + 1)]
    rw [← hlen, List.range_eq_range']; exact key vs 0
  have hfill : Instr.fill (fun i => some (i * sz, sz)) ((Array.range (len * sz)).map ((if len * sz = 0 then #[] else z.cells)[· % (if len * sz = 0 then #[] else z.cells).size]!)) (parts.map fun p => (p.1, a.eval p.2)) = some cs.toArray := by
    rw [hvals parts vs hvs, hi, hzip]
    have er : ∀ f : Nat → Value, (Array.range (len * sz)).map f = ((List.range (len * sz)).map f).toArray := fun f => by apply Array.ext'; simp
    rw [er]
    have := fill_flat hf 0 ((List.range (len * sz)).map ((if len * sz = 0 then #[] else z.cells)[· % (if len * sz = 0 then #[] else z.cells).size]!)) (by simp [hlen])
    simpa using this
  have hrun : (execOp a.eval ⟨some d, .buildSlice t len parts.toArray, T, pos, af, none⟩).run P w = .ok (.value (.slice (some ⟨w.heap.size, 0, none⟩) len len)) (w.alloc (.cells cs.toArray e)) := by
    have hs : ¬ (2 ^ 24 < len * sz) := by omega
    by_cases h0 : len * sz = 0
    · simp only [h0, ↓reduceIte] at hfill
      simp [execOp, Instr.buildSlice, run_underlying hu, runSz hz, h0, newRow]
      rw [show (Array.map (fun _ => (default : Value)) (Array.range 0)) = Array.map (fun x => (#[] : Array Value)[x % (#[] : Array Value).size]!) (Array.range 0) from rfl, hfill]
      simp
    · simp only [h0, ↓reduceIte] at hfill
      simp [execOp, Instr.buildSlice, run_underlying hu, runSz hz, h0, runZv hzv, newRow, hs]
      rw [hfill]
      simp
  unfold Oper.wp
  rw [hrun]
  exact hK _ _ ((k _).go _ _ (ha.put (by simpa using hn) _) (hst.newBlk _ _))
end
end Go.BK
