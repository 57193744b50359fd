/- More operations: strings from bytes and bytes from strings, elements of lists of things. No program in sight. -/
import Derived.Test.YtakffjjnogpolaaLibK
import Derived.Laws.IdiomStrings
namespace Go.BK
open Go.RowKit

section
variable {P : Program} {w0 : World} {S0 : BSet} {n : Nat} {F : Fr} {A r : List HP} {ops : Array Oper} {Q : Exit → Act → World → Prop} {rest : List Oper} {d : Nat} {T : TypeId} {pos : String} {af : Array Edge} {x y : Operand} {v u q : Value} {t ty e ee : TypeId} {k : IntKind} {a b : Int} {cs ys : List Value} {bl o sz len off i j m : Nat}
  {dd : Option Tmp} {g : Option (Nat × Bool)}
theorem runStrRow {R : BSet} {w : World} {l : List UInt8} (hu : P.underlying t = some (.slice e)) (he : P.underlying e = some (.int .u8)) (hd : P.underlying ty = some .string) (h : (HP.row 1 v l.length (l.map byt)).sat R w) :
    (convert t ty v).run P w = .ok (str l) w := by
  obtain ⟨hl, h'⟩ := id h
  rcases h' with ⟨p, cap, h1, h2, _⟩ | ⟨b', off', cap', c, U, fr, h1, _, h3, h4, _⟩
  · subst h1
    have hl0 : l = [] := List.length_eq_zero_iff.1 h2
    subst hl0
    cases p with
    | none => rw [run_convert_bytes_string w t ty e none 0 cap hu he hd]; simp [Conv.bytesToString, str, Sem.run_pure]; rfl
    | some p => exact run_convert_bytes_back w t ty e p cap [] hu he hd (fun j hj => by simp at hj)
  · subst h1
    refine run_convert_bytes_back w t ty e ⟨b', off', none⟩ cap' l hu he hd (fun j hj => ?_)
    rw [add_at]
    exact row_cell (by simp [hj]) R w h
theorem EvW.strRow {l : List UInt8} (hx : ev F x = some v) (hu : P.underlying t = some (.slice e)) (he : P.underlying e = some (.int .u8)) (hd : P.underlying ty = some .string) (hB : Sees w0 S0 (.row 1 v len (l.map byt))) : EvW P w0 S0 n F A ⟨dd, .convert t ty x, T, pos, af, g⟩ (str l) :=
  .pure fun a' w ha hst => by
    obtain ⟨R, hR⟩ := hB.at hst
    have hl : l.length = len := by have := hR.1; simpa using this
    subst hl
    simp [execOp, ha.eval hx, runStrRow hu he hd hR]
theorem EvW.strOwn {l : List UInt8} (hx : ev F x = some v) (hu : P.underlying t = some (.slice e)) (he : P.underlying e = some (.int .u8)) (hd : P.underlying ty = some .string) (ht : Take (.own ee 1 v len (l.map byt)) A r) : EvW P w0 S0 n F A ⟨dd, .convert t ty x, T, pos, af, g⟩ (str l) :=
  .pure fun a' w ha hst => by
    obtain ⟨R, hR⟩ := hst.take ht
    have hR := own_row hR
    have hl : l.length = len := by have := hR.1; simpa using this
    subst hl
    simp [execOp, ha.eval hx, runStrRow hu he hd hR]
/-- []byte(s). -/
theorem WL.bytesOf {l : List UInt8} (hn : Nat.blt d n = true) (hx : ev F x = some (str l)) (hs : P.underlying t = some .string) (hu : P.underlying ty = some (.slice e)) (he : P.underlying e = some (.int .u8))
    (kk : ∀ v', WL P w0 S0 n ops Q rest ((d, v') :: F) (.own e 1 v' l.length (l.map byt) :: A)) :
    WL P w0 S0 n ops Q (⟨some d, .convert t ty x, T, pos, af, none⟩ :: rest) F A := by
  refine .step (fun act w ha hst K hK => ?_) rfl
  have hrun := run_bytes_of_string (P := P) w t ty e (ByteArray.mk l.toArray) hs hu he
  generalize hcap : grownCap w (ByteArray.mk l.toArray).size 0 e = cap at hrun
  have hge : l.length ≤ cap := by
    rw [← hcap]; simp [grownCap, Question.cut, sizeMk]
  have hrow : bytesRow (ByteArray.mk l.toArray) cap = (l.map byt ++ List.replicate (cap - l.length) (Value.int .u8 0)).toArray := by
    unfold bytesRow
    apply Array.ext'
    simp [sizeMk]
  rw [hrow] at hrun
  unfold Oper.wp
  have hex : (execOp act.eval ⟨some d, .convert t ty x, T, pos, af, none⟩).run P w = .ok (.value (.slice (some ⟨w.heap.size, 0, none⟩) l.length cap)) (w.drew.alloc (.cells (l.map byt ++ List.replicate (cap - l.length) (Value.int .u8 0)).toArray e ((l.map byt ++ List.replicate (cap - l.length) (Value.int .u8 0)).toArray.size, (l.map byt ++ List.replicate (cap - l.length) (Value.int .u8 0)).toArray.size + 1))) := by
    simp only [execOp, ha.eval hx, Sem.run_bind]
    rw [show (str l) = Value.string (ByteArray.mk l.toArray) from rfl, hrun]
    rfl
  rw [hex]
  refine hK _ _ ((kk _).go _ _ (ha.put (by simpa using hn) _) ?_)
  have hD : St w0 S0 A w.drew := hst.drew _
  have hN := hD.new (.cells (l.map byt ++ List.replicate (cap - l.length) (Value.int .u8 0)).toArray e ((l.map byt ++ List.replicate (cap - l.length) (Value.int .u8 0)).toArray.size, (l.map byt ++ List.replicate (cap - l.length) (Value.int .u8 0)).toArray.size + 1))
    (x := .blk w.drew.heap.size (l.map byt ++ List.replicate (cap - l.length) (Value.int .u8 0)).toArray e) (fun w1 h1 => ⟨fun _ => Iff.rfl, _, _, h1, fun o h2 h3 => by omega⟩)
  exact hN.mono fun S' w' hs' => star_mono hs' (fun S'' h => blk_own h (by simp) hge (by simp; omega)) fun _ h => h

/-- Elements of lists of things. -/
theorem EvW.ldMap {α : Type} {xs : List α} {f : α → Value} {z : α} (hx : ev F x = some (elemP 1 v i 0)) (hs : scalB P t = true) (hB : Sees w0 S0 (.row 1 v len (xs.map f))) (hi : i < xs.length) : EvW P w0 S0 n F A ⟨dd, .load t x, T, pos, af, g⟩ (f (xs.getD i z)) :=
  .ldRow hx hs hB (by simp [hi])
theorem EvW.ldMapOwn {α : Type} {xs : List α} {f : α → Value} {z : α} (hx : ev F x = some (elemP 1 v i 0)) (hs : scalB P t = true) (ht : Take (.own ee 1 v len (xs.map f)) A r) (hi : i < xs.length) : EvW P w0 S0 n F A ⟨dd, .load t x, T, pos, af, g⟩ (f (xs.getD i z)) :=
  .ldOwn hx hs ht (by simp [hi])
theorem EvW.ldByt {xs : List UInt8} (hx : ev F x = some (elemP 1 v i 0)) (hs : scalB P t = true) (hB : Sees w0 S0 (.row 1 v len (xs.map byt))) (hi : i < xs.length) : EvW P w0 S0 n F A ⟨dd, .load t x, T, pos, af, g⟩ (.int .u8 (xs.getD i 0).toNat) := .ldMap (f := byt) hx hs hB hi
theorem EvW.ldBytOwn {xs : List UInt8} (hx : ev F x = some (elemP 1 v i 0)) (hs : scalB P t = true) (ht : Take (.own ee 1 v len (xs.map byt)) A r) (hi : i < xs.length) : EvW P w0 S0 n F A ⟨dd, .load t x, T, pos, af, g⟩ (.int .u8 (xs.getD i 0).toNat) := .ldMapOwn (f := byt) hx hs ht hi
theorem EvW.ldStr {xs : List (List UInt8)} (hx : ev F x = some (elemP 1 v i 0)) (hs : scalB P t = true) (hB : Sees w0 S0 (.row 1 v len (xs.map str))) (hi : i < xs.length) : EvW P w0 S0 n F A ⟨dd, .load t x, T, pos, af, g⟩ (str (xs.getD i [])) := .ldMap (f := str) hx hs hB hi
theorem EvW.ldStrOwn {xs : List (List UInt8)} (hx : ev F x = some (elemP 1 v i 0)) (hs : scalB P t = true) (ht : Take (.own ee 1 v len (xs.map str)) A r) (hi : i < xs.length) : EvW P w0 S0 n F A ⟨dd, .load t x, T, pos, af, g⟩ (str (xs.getD i [])) := .ldMapOwn (f := str) hx hs ht hi
theorem flat_length {α : Type} {xs : List α} {f : α → List Value} (hf : ∀ a, (f a).length = sz) : (xs.flatMap f).length = xs.length * sz := by
  induction xs with
  | nil => simp
  | cons x r ih => simp [hf, ih, Nat.add_mul, Nat.add_comm]
theorem flat_get {α : Type} {xs : List α} {f : α → List Value} {z : α} (hf : ∀ a, (f a).length = sz) : ∀ {i : Nat}, i < xs.length → ((xs.flatMap f).drop (i * sz)).take sz = f (xs.getD i z) := by
  induction xs with
  | nil => intro i hi; simp at hi
  | cons x r ih =>
    intro i hi
    cases i with
    | zero => simp [hf]
    | succ i =>
      simp only [List.length_cons] at hi
      have := ih (i := i) (by omega)
      simp only [List.flatMap_cons, Nat.add_mul, Nat.one_mul, List.getD_cons_succ]
      rw [← this, Nat.add_comm, ← List.drop_drop, List.drop_left' (hf x)]
theorem runLoadAgg' {w : World} {o kk : Nat} {c : Array Value} {fr : Nat × Nat} (h : aggB P t = true) (hk : szB P t = some kk) (hb : w.heap[bl]? = some (.cells c T fr)) (hs : o + kk ≤ c.size) : (Instr.loadAt t (ptr bl o)).run P w = .ok (.agg (c.extract o (o + kk))) w := by
  unfold Instr.loadAt
  simp only [Instr.sureAddr, loadVar, Sem.run_bind, Sem.run_pure, Result.andThen, runAgg h]
  have := runLoadCells (P := P) (w := w) (b := bl) c o kk 0 #[] (fun j hj _ => by simp [World.cell?, hb]) (by omega)
  simp [runSz hk, loadCells, this, Result.andThen]
theorem runLoadAggAt {R : BSet} {w : World} {out : List Value} (hs : aggB P t = true) (hm : szB P t = some m) (hpos : 0 < m) (h : (HP.row sz v len cs).sat R w) (hout : (cs.drop (i * sz + off)).take m = out) (hl : i * sz + off + m ≤ cs.length) :
    (Instr.loadAt t (elemP sz v i off)).run P w = .ok (.agg out.toArray) w := by
  obtain ⟨hcl, h'⟩ := id h
  rcases h' with ⟨_, _, h1, h2, _⟩ | ⟨b', off', cap', c, U, fr, h1, _, h3, h4, _⟩
  · subst h2; simp at hcl; subst hcl; simp at hl; omega
  · subst h1
    obtain ⟨lo, hi⟩ := fr
    have hget : ∀ j, j < m → c[off' + (i * sz + off) + j]? = out[j]? := by
      intro j hj
      have hlt : i * sz + off + j < cs.length := by omega
      have := h4 (i * sz + off + j) cs[i * sz + off + j] (List.getElem?_eq_getElem hlt)
      rw [show off' + (i * sz + off) + j = off' + (i * sz + off + j) by omega, this, ← hout, List.getElem?_take_of_lt hj, List.getElem?_drop, List.getElem?_eq_getElem hlt]
    have hbig : off' + (i * sz + off) + m ≤ c.size := by
      have h5 := hget (m - 1) (by omega)
      have hol : out.length = m := by rw [← hout]; simp; omega
      rw [List.getElem?_eq_getElem (by omega)] at h5
      have := (Array.getElem?_eq_some_iff.1 h5).1
      omega
    have hrun := runLoadAgg' (P := P) hs hm h3 (o := off' + (i * sz + off)) hbig
    have hext : c.extract (off' + (i * sz + off)) (off' + (i * sz + off) + m) = out.toArray := by
      have hol : out.length = m := by rw [← hout]; simp; omega
      apply Array.ext'
      apply List.ext_getElem?
      intro j
      by_cases hj : j < m
      · have := hget j hj
        simp only [Array.getElem?_toList, Array.getElem?_extract]
        rw [if_pos (by omega)]
        exact this
      · rw [List.getElem?_eq_none (by simp; omega), List.getElem?_eq_none (by simp; omega)]
    rw [hext] at hrun
    exact hrun
theorem EvW.ldAgg {out : List Value} (hx : ev F x = some (elemP sz v i off)) (hs : aggB P t = true) (hm : szB P t = some m) (hpos : Nat.ble 1 m = true) (hB : Sees w0 S0 (.row sz v len cs)) (hout : (cs.drop (i * sz + off)).take m = out) (hl : i * sz + off + m ≤ cs.length) :
    EvW P w0 S0 n F A ⟨dd, .load t x, T, pos, af, g⟩ (.agg out.toArray) :=
  .pure fun a' w ha hst => by
    obtain ⟨R, hR⟩ := hB.at hst
    simp [execOp, ha.eval hx, runLoadAggAt hs hm (Nat.le_of_ble_eq_true hpos) hR hout hl]
theorem EvW.ldElem {α : Type} {xs : List α} {f : α → List Value} {z : α} (hx : ev F x = some (elemP sz v i 0)) (hs : aggB P t = true) (hm : szB P t = some sz) (hpos : Nat.ble 1 sz = true) (hf : ∀ a, (f a).length = sz) (hB : Sees w0 S0 (.row sz v len (xs.flatMap f))) (hi : i < xs.length) :
    EvW P w0 S0 n F A ⟨dd, .load t x, T, pos, af, g⟩ (.agg (f (xs.getD i z)).toArray) :=
  .ldAgg hx hs hm hpos hB (flat_get hf hi) (by
    rw [flat_length hf]
    calc i * sz + 0 + sz = (i + 1) * sz := by rw [Nat.add_mul]; omega
      _ ≤ xs.length * sz := Nat.mul_le_mul_right _ hi)
theorem St.ownNil {w : World} (h : St w0 S0 A w) : St w0 S0 (.own e sz (.slice none 0 0) 0 [] :: A) w :=
  h.mono fun S w hs => ⟨fun _ => False, S, fun b => by simp, fun b hb => hb.elim, ⟨by simp, .inl ⟨rfl, rfl, fun _ h => h⟩⟩, hs⟩
theorem WL.ownNil (e sz : Nat) (kk : WL P w0 S0 n ops Q rest F (.own e sz (.slice none 0 0) 0 [] :: A)) : WL P w0 S0 n ops Q rest F A := kk.conv fun _ hs => hs.ownNil
theorem WC.ownNil {c : Code} (e sz : Nat) (kk : WC P w0 S0 n c Q F (.own e sz (.slice none 0 0) 0 [] :: A)) : WC P w0 S0 n c Q F A := kk.conv fun _ hs => hs.ownNil
theorem WL.keep {xs : List HP} (t : TakeL xs A r) (h : WL P w0 S0 n ops Q rest F xs) : WL P w0 S0 n ops Q rest F A := h.conv fun _ hs => hs.keep t
theorem WC.keep {c : Code} {xs : List HP} (t : TakeL xs A r) (h : WC P w0 S0 n c Q F xs) : WC P w0 S0 n c Q F A := h.conv fun _ hs => hs.keep t
/-- The byte that a number ends with. -/
def bytOf (x : Int) : UInt8 := UInt8.ofNat (IntKind.u8.wrap x).toNat
theorem byt_of (x : Int) : byt (bytOf x) = .int .u8 (IntKind.u8.wrap x) := by
  have := wrap_bounds IntKind.u8 x
  simp only [IntKind.min, IntKind.max, IntKind.signed, IntKind.bits, Bool.false_eq_true, ↓reduceIte] at this
  simp only [byt, bytOf, Value.int.injEq, true_and]
  rw [UInt8.toNat_ofNat']
  omega
/-- A slice is one cell. -/
theorem sl_cells {v : Value} (h : ∃ p l c, v = .slice p l c) : v.cells = [v].toArray ∧ [v].all (·.oneCell') = true := by
  obtain ⟨p, l, c, rfl⟩ := h; exact ⟨rfl, rfl⟩
theorem own_sl {w : World} {S : BSet} (h : (HP.own e sz v len cs).sat S w) : ∃ p l c, v = .slice p l c := by
  rcases own_shape h with ⟨h, _⟩ | ⟨b, cap, h, _⟩ <;> exact ⟨_, _, _, h⟩
theorem Sees.sl {w : World} {S : BSet} (h : Sees w S (.row sz v len cs)) : ∃ p l c, v = .slice p l c := by
  rcases h.row_shape with ⟨_, _, h, _⟩ | ⟨_, _, _, h, _⟩ <;> exact ⟨_, _, _, h⟩
theorem WL.slOwn (ht : Take (.own e sz v len cs) A r) (kk : v.cells = [v].toArray → [v].all (·.oneCell') = true → WL P w0 S0 n ops Q rest F A) : WL P w0 S0 n ops Q rest F A :=
  ⟨fun a w ha hst => by
    obtain ⟨S, h⟩ := hst.take ht
    have := sl_cells (own_sl h)
    exact (kk this.1 this.2).go a w ha hst⟩
theorem WC.slOwn {c : Code} (ht : Take (.own e sz v len cs) A r) (kk : v.cells = [v].toArray → [v].all (·.oneCell') = true → WC P w0 S0 n c Q F A) : WC P w0 S0 n c Q F A :=
  ⟨fun a w ha hst => by
    obtain ⟨S, h⟩ := hst.take ht
    have := sl_cells (own_sl h)
    exact (kk this.1 this.2).go a w ha hst⟩
theorem runEqPtrNil {w : World} {pa : Addr} (hu : P.underlying t = some (.pointer e)) : (Op.equal t (.pointer (some pa)) (.pointer none)).run P w = .ok false w := by
  have key : ∀ m, (Op.equalIn (m + 1) t (.pointer (some pa)) (.pointer none)).run P w = .ok false w := fun m => by simp [Op.equalIn, run_underlying hu]
  exact key 9999
/-- A pointer against nil. -/
theorem EvW.peqN {pa : Addr} (hx : ev F x = some (.pointer (some pa))) (hy : ev F y = some (.pointer none)) (hu : P.underlying t = some (.pointer e)) : EvW P w0 S0 n F A ⟨dd, .binOp .eql t x y ty, T, pos, af, g⟩ (.bool false) :=
  .pure fun a' w ha _ => by simp [execOp, ha.eval hx, ha.eval hy, eqGuard, binOp, runEqPtrNil hu]
theorem EvW.pneN {pa : Addr} (hx : ev F x = some (.pointer (some pa))) (hy : ev F y = some (.pointer none)) (hu : P.underlying t = some (.pointer e)) : EvW P w0 S0 n F A ⟨dd, .binOp .neq t x y ty, T, pos, af, g⟩ (.bool true) :=
  .pure fun a' w ha _ => by simp [execOp, ha.eval hx, ha.eval hy, eqGuard, binOp, runEqPtrNil hu]
/-- A call in a region whose order is open, of a contract that gives back just what it took. -/
theorem EvW.callK {f : FuncId} {args : List Operand} {ats : Array TypeId} {vals : List Value} (A1 : List HP) {A2 : List HP} {R : Value → List HP → Prop} (hargs : evs F args = some vals) (hcall : ∀ w, (callFunc f vals.toArray).run P w = .ok (.enter f vals.toArray) w) (ht : TakeL A1 A A2)
    (hspec : ∀ w S, (sepL A1).sat S w → (∀ B, Sees w0 S0 B → Sees w S B) → (∀ B r, Take B A2 r → Sees w S B) → Tri P f vals.toArray w S R)
    (hR : ∀ v' A', R v' A' → v' = v ∧ A' = A1) : EvW P w0 S0 n F A ⟨dd, .call ⟨.value (.func f), args.toArray, ats⟩, T, pos, af, g⟩ v :=
  ⟨(EffW.callT (A' := A) hargs hspec hcall ht hR (fun _ h => h.mono fun S w hs => ht.unstar (sepL_unappend hs))).go⟩
end
end Go.BK
