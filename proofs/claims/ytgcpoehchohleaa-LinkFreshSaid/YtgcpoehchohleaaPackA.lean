/- What the writer of pack does, call by call. -/
import Derived.Test.YtgcpoehchohleaaRows
import Derived.Test.YtgcpoehchohleaaLibL
import Derived.Test.YtgcpoehchohleaaFacts
namespace Go.Proofs.Ytgcpoehchohleaa
open Go.RowKit Go.BK

/-- A writer: its error, its bytes, its limit. -/
structure PW where
  e : Int
  out : List UInt8
  lim : Int
def PW.note (m : PW) (c : Int) : PW := { m with e := if m.e = 0 then c else m.e }
def PW.add (m : PW) (b : List UInt8) : PW := { m with out := m.out ++ b }
def PW.put (m : PW) (b : List UInt8) : PW :=
  if m.lim - m.out.length < b.length then m.note 2 else if m.e = 0 then m.add b else m
/-- There is room for so many bytes more: by the limit, or by the bytes themselves. -/
def PW.fits (m : PW) (r : Nat) : Prop := 0 ≤ m.lim ∧ m.lim ≤ 9223372036854775807 ∧ ((m.lim ≤ 140737488355328 ∧ m.out.length ≤ 140737488355328) ∨ m.out.length + r ≤ 140737488355328)
theorem PW.fits.put {m : PW} {b : List UInt8} {r : Nat} (h : m.fits (b.length + r)) : (m.put b).fits r := by
  obtain ⟨h1, h2, h3⟩ := h
  unfold PW.put
  split
  · exact ⟨h1, h2, h3.elim .inl fun h => .inr (by simp only [PW.note]; omega)⟩
  · split
    · refine ⟨h1, h2, h3.elim (fun h => .inl ⟨h.1, ?_⟩) fun h => .inr ?_⟩ <;> simp only [PW.add, List.length_append] <;> omega
    · exact ⟨h1, h2, h3.elim .inl fun h => .inr (by omega)⟩
theorem PW.fits.note {m : PW} {c : Int} {r : Nat} (h : m.fits r) : (m.note c).fits r := h
theorem PW.fits.le {m : PW} {r r' : Nat} (h : m.fits r) (hr : r' ≤ r) : m.fits r' := ⟨h.1, h.2.1, h.2.2.elim .inl fun h => .inr (by omega)⟩
theorem PW.fits.room {m : PW} {r : Nat} (h : m.fits r) (hr : ¬ m.lim - m.out.length < r) : m.out.length + r ≤ 140737488355328 := by
  obtain ⟨h1, h2, h3⟩ := h; omega
theorem PW.fits.fold {α : Type} {f : PW → α → PW} {g : α → Nat} (hf : ∀ (m : PW) x r, m.fits (g x + r) → (f m x).fits r) : ∀ (l : List α) {m : PW} (i : Nat), m.fits (l.map g).sum → ((l.take i).foldl f m).fits ((l.drop i).map g).sum := by
  intro l
  induction l with
  | nil => intro m i h; simpa using h
  | cons x t ih =>
    intro m i h
    cases i with
    | zero => simpa using h
    | succ i =>
      simp only [List.take_succ_cons, List.foldl_cons, List.drop_succ_cons]
      exact ih i (hf m x _ (by simpa using h))
theorem drop_sum {α : Type} (g : α → Nat) (l : List α) (z : α) (i : Nat) (h : i < l.length) : ((l.drop i).map g).sum = g (l.getD i z) + ((l.drop (i + 1)).map g).sum := by
  rw [List.drop_eq_getElem_cons h, List.map_cons, List.sum_cons]
  simp [List.getD_eq_getElem?_getD, List.getElem?_eq_getElem h]
theorem note_spec (b T : Nat) (e c : Int) (cs : List Value) (e' : Int) (he : (if e = 0 then c else e) = e') (w : World) (S : BSet) (hS : (sepL [.blk b (i64 e :: cs).toArray T]).sat S w) :
    Tri Try.prog 62 #[ptr b 0, i64 c] w S fun u A => u = .tuple #[] ∧ A = [.blk b (i64 e' :: cs).toArray T] := by
  refine Tri.enter (l := [ptr b 0, i64 c]) Try.func62 rfl Try.ntmps62 rfl [(0, ptr b 0), (1, i64 c)] (subA rfl) hS ?_
  by_cases h : e = 0
  · simp only [h, ↓reduceIte] at he
    subst he
    subst h
    repeat first
      | (apply WL.q; exact rfl; exact rfl; exact rfl; (first | (apply EvW.move; exact rfl) | (apply EvW.nilPtr; exact rfl) | (apply EvW.fieldAddr0; exact rfl; exact FldC.eq) | (apply EvW.fieldAddr; exact rfl; exact FldC.eq) | (apply EvW.load; exact rfl; exact ScalC.eq; (focus ((repeat (first | exact Take.head | apply Take.tail)); done)); exact rfl) | (apply EvW.cmpT; exact rfl; exact rfl; exact rfl; omega) | (apply EvW.cmpF; exact rfl; exact rfl; exact rfl; omega) | (apply EvW.cmp; exact rfl; exact rfl; exact rfl) | (apply EvW.ldInt; exact rfl; exact ScalC.eq; assumption; omega) | (apply EvW.ldIntOwn; exact rfl; exact ScalC.eq; (focus ((repeat (first | exact Take.head | apply Take.tail)); done)); omega) | (apply EvW.fldRow; exact rfl; exact FldC.eq; assumption; omega) | (apply EvW.fldOwn; exact rfl; exact FldC.eq; (focus ((repeat (first | exact Take.head | apply Take.tail)); done)); omega)))
      | refine WC.seq ?_ | refine WC.region ?_ | refine WL.nil ?_ | refine WE.next ?_ | refine WC.skip ?_ | refine WC.exit ?_ | refine WE.pass ?_ | refine WE.hit ?_ | refine WE.miss rfl ?_ | refine WE.out ?_ | refine WC.condT rfl ?_ | refine WC.condF rfl ?_ | refine WC.ret ?_ | refine WE.passRet ?_ | refine WE.outRet ?_ | refine WL.wanted rfl rfl rfl ?_ | (apply WL.store; exact rfl; exact rfl; (first | assumption | exact rfl); exact SzC.eq; (first | assumption | exact rfl); (focus ((repeat (first | apply UpdC.head | apply UpdC.tail | exact SetMany.nil | apply SetMany.cons | apply SetMany.succ)); done)))
    exact WE.end0 rfl ⟨rfl, rfl⟩
  · simp only [h, ↓reduceIte] at he
    subst he
    repeat first
      | (apply WL.q; exact rfl; exact rfl; exact rfl; (first | (apply EvW.move; exact rfl) | (apply EvW.nilPtr; exact rfl) | (apply EvW.fieldAddr0; exact rfl; exact FldC.eq) | (apply EvW.fieldAddr; exact rfl; exact FldC.eq) | (apply EvW.load; exact rfl; exact ScalC.eq; (focus ((repeat (first | exact Take.head | apply Take.tail)); done)); exact rfl) | (apply EvW.cmpT; exact rfl; exact rfl; exact rfl; omega) | (apply EvW.cmpF; exact rfl; exact rfl; exact rfl; omega) | (apply EvW.cmp; exact rfl; exact rfl; exact rfl) | (apply EvW.ldInt; exact rfl; exact ScalC.eq; assumption; omega) | (apply EvW.ldIntOwn; exact rfl; exact ScalC.eq; (focus ((repeat (first | exact Take.head | apply Take.tail)); done)); omega) | (apply EvW.fldRow; exact rfl; exact FldC.eq; assumption; omega) | (apply EvW.fldOwn; exact rfl; exact FldC.eq; (focus ((repeat (first | exact Take.head | apply Take.tail)); done)); omega)))
      | refine WC.seq ?_ | refine WC.region ?_ | refine WL.nil ?_ | refine WE.next ?_ | refine WC.skip ?_ | refine WC.exit ?_ | refine WE.pass ?_ | refine WE.hit ?_ | refine WE.miss rfl ?_ | refine WE.out ?_ | refine WC.condT rfl ?_ | refine WC.condF rfl ?_ | refine WC.ret ?_ | refine WE.passRet ?_ | refine WE.outRet ?_ | refine WL.wanted rfl rfl rfl ?_ | (apply WL.store; exact rfl; exact rfl; (first | assumption | exact rfl); exact SzC.eq; (first | assumption | exact rfl); (focus ((repeat (first | apply UpdC.head | apply UpdC.tail | exact SetMany.nil | apply SetMany.cons | apply SetMany.succ)); done)))
    exact WE.end0 rfl ⟨rfl, rfl⟩
theorem well_spec (b T : Nat) (e : Int) (cs : List Value) (w : World) (S : BSet) (hS : (sepL [.blk b (i64 e :: cs).toArray T]).sat S w) :
    Tri Try.prog 48 #[ptr b 0] w S fun u A => u = .bool (decide (e = 0)) ∧ A = [.blk b (i64 e :: cs).toArray T] := by
  refine Tri.enter (l := [ptr b 0]) Try.func48 rfl Try.ntmps48 rfl [(0, ptr b 0)] (subA rfl) hS ?_
  repeat first
    | (apply WL.q; exact rfl; exact rfl; exact rfl; (first | (apply EvW.move; exact rfl) | (apply EvW.assign; exact rfl) | (apply EvW.nilPtr; exact rfl) | (apply EvW.fieldAddr0; exact rfl; exact FldC.eq) | (apply EvW.fieldAddr; exact rfl; exact FldC.eq) | (apply EvW.load; exact rfl; exact ScalC.eq; (focus ((repeat (first | exact Take.head | apply Take.tail)); done)); exact rfl) | (apply EvW.cmpT; exact rfl; exact rfl; exact rfl; omega) | (apply EvW.cmpF; exact rfl; exact rfl; exact rfl; omega) | (apply EvW.cmp; exact rfl; exact rfl; exact rfl) | (apply EvW.ldInt; exact rfl; exact ScalC.eq; assumption; omega) | (apply EvW.ldIntOwn; exact rfl; exact ScalC.eq; (focus ((repeat (first | exact Take.head | apply Take.tail)); done)); omega) | (apply EvW.fldRow; exact rfl; exact FldC.eq; assumption; omega) | (apply EvW.fldOwn; exact rfl; exact FldC.eq; (focus ((repeat (first | exact Take.head | apply Take.tail)); done)); omega)))
    | refine WC.seq ?_ | refine WC.region ?_ | refine WL.nil ?_ | refine WE.next ?_ | refine WC.skip ?_ | refine WC.exit ?_ | refine WE.pass ?_ | refine WE.hit ?_ | refine WE.miss rfl ?_ | refine WE.out ?_ | refine WC.ret ?_ | refine WE.passRet ?_ | refine WE.outRet ?_ | refine WL.wanted rfl rfl rfl ?_
  refine WE.ret1 rfl rfl ?_
  exact ⟨rfl, rfl⟩
theorem put_spec (b : Nat) (v pv : Value) (m : PW) (bs : List UInt8) (w : World) (S : BSet) (hS : (sepL [.own 5 1 v m.out.length (m.out.map byt), .blk b #[i64 m.e, v, i64 m.lim] 83]).sat S w)
    (hb : Sees w S (.row 1 pv bs.length (bs.map byt))) (hr : m.fits bs.length) :
    Tri Try.prog 63 #[ptr b 0, pv] w S fun u A => u = .tuple #[] ∧ ∃ v', A = [.own 5 1 v' (m.put bs).out.length ((m.put bs).out.map byt), .blk b #[i64 (m.put bs).e, v', i64 (m.put bs).lim] 83] := by
  have hroom := hr.room
  obtain ⟨h0, h1, hr⟩ := hr
  refine Tri.enter (l := [ptr b 0, pv]) Try.func63 rfl Try.ntmps63 rfl [(0, ptr b 0), (1, pv)] (subA rfl) hS ?_
  by_cases h : m.lim - m.out.length < bs.length
  · have hm : m.put bs = m.note 2 := by simp [PW.put, h]
    rw [hm]
    repeat refine WC.seq ?_
    apply WC.drawQ Try.mixed
    · (focus ((repeat (first | exact Restr.nil | (apply Restr.keep; exact rfl; exact rfl) | (apply Restr.drop; exact rfl))); done))
    · exact rfl
    · decide +kernel
    · decide +kernel
    · repeat first
        | exact Draws.nil
        | (apply Draws.skip; exact rfl; exact rfl)
        | (apply Draws.q0; exact rfl
           (first | (apply EvW.move; exact rfl) | (apply EvW.nilPtr; exact rfl) | (apply EvW.fieldAddr0; exact rfl; exact FldC.eq) | (apply EvW.fieldAddr; exact rfl; exact FldC.eq) | (apply EvW.load; exact rfl; exact ScalC.eq; (focus ((repeat (first | exact Take.head | apply Take.tail)); done)); exact rfl) | (apply EvW.lenL; exact rfl; exact UndC.eq) | (apply EvW.cmpT; exact rfl; exact rfl; exact rfl; omega) | (apply EvW.cmpF; exact rfl; exact rfl; exact rfl; omega) | (apply EvW.cmp; exact rfl; exact rfl; exact rfl) | (apply EvW.arN; exact rfl; exact rfl; exact rfl; refine i64_in ?_ ?_ <;> omega) | (apply EvW.ar; exact rfl; exact rfl; exact rfl) | (apply EvW.lenRow; exact rfl; exact UndC.eq; assumption) | (apply EvW.lenOwn; exact rfl; exact UndC.eq; (focus ((repeat (first | exact Take.head | apply Take.tail)); done))) | (apply EvW.ldInt; exact rfl; exact ScalC.eq; assumption; omega) | (apply EvW.ldIntOwn; exact rfl; exact ScalC.eq; (focus ((repeat (first | exact Take.head | apply Take.tail)); done)); omega) | (apply EvW.fldRow; exact rfl; exact FldC.eq; assumption; omega) | (apply EvW.fldOwn; exact rfl; exact FldC.eq; (focus ((repeat (first | exact Take.head | apply Take.tail)); done)); omega)))
    apply WE.writ
    · (focus ((repeat (first | exact Writ.nil | apply Writ.some | apply Writ.none)); done))
    repeat first
      | (apply WL.q; exact rfl; exact rfl; exact rfl; (first | (apply EvW.move; exact rfl) | (apply EvW.nilPtr; exact rfl) | (apply EvW.fieldAddr0; exact rfl; exact FldC.eq) | (apply EvW.fieldAddr; exact rfl; exact FldC.eq) | (apply EvW.load; exact rfl; exact ScalC.eq; (focus ((repeat (first | exact Take.head | apply Take.tail)); done)); exact rfl) | (apply EvW.lenL; exact rfl; exact UndC.eq) | (apply EvW.cmpT; exact rfl; exact rfl; exact rfl; omega) | (apply EvW.cmpF; exact rfl; exact rfl; exact rfl; omega) | (apply EvW.cmp; exact rfl; exact rfl; exact rfl) | (apply EvW.arN; exact rfl; exact rfl; exact rfl; refine i64_in ?_ ?_ <;> omega) | (apply EvW.ar; exact rfl; exact rfl; exact rfl) | (apply EvW.lenRow; exact rfl; exact UndC.eq; assumption) | (apply EvW.lenOwn; exact rfl; exact UndC.eq; (focus ((repeat (first | exact Take.head | apply Take.tail)); done))) | (apply EvW.ldInt; exact rfl; exact ScalC.eq; assumption; omega) | (apply EvW.ldIntOwn; exact rfl; exact ScalC.eq; (focus ((repeat (first | exact Take.head | apply Take.tail)); done)); omega) | (apply EvW.fldRow; exact rfl; exact FldC.eq; assumption; omega) | (apply EvW.fldOwn; exact rfl; exact FldC.eq; (focus ((repeat (first | exact Take.head | apply Take.tail)); done)); omega)))
      | refine WC.seq ?_ | refine WC.region ?_ | refine WL.nil ?_ | refine WE.next ?_ | refine WC.skip ?_ | refine WC.exit ?_ | refine WE.pass ?_ | refine WE.hit ?_ | refine WE.miss rfl ?_ | refine WE.out ?_ | refine WC.condT rfl ?_ | refine WC.condF rfl ?_ | refine WC.ret ?_ | refine WE.passRet ?_ | refine WE.outRet ?_ | refine WL.wanted rfl rfl rfl ?_ | (apply WL.store; exact rfl; exact rfl; (first | assumption | exact rfl); exact SzC.eq; (first | assumption | exact rfl); (focus ((repeat (first | apply UpdC.head | apply UpdC.tail | exact SetMany.nil | apply SetMany.cons | apply SetMany.succ)); done)))
    try refine WL.wanted rfl rfl rfl ?_
    apply WL.callT
    · exact rfl
    · exact rfl
    · exact fun w1 S1 hS1 hs1 ho1 => note_spec b 83 m.e 2 [v, i64 m.lim] _ rfl w1 S1 hS1
    · exact fun w => Try.call62 _ w
    · (focus ((repeat (first | exact TakeL.nil | apply TakeL.cons | exact Take.head | apply Take.tail)); done))
    rintro _ _ ⟨rfl, rfl⟩
    first | refine WL.app4 ?_ | refine WL.app3 ?_ | refine WL.app2 ?_ | refine WL.app1 ?_ | refine WL.app0 ?_ | skip
    repeat first
      | (apply WL.q; exact rfl; exact rfl; exact rfl; (first | (apply EvW.move; exact rfl) | (apply EvW.nilPtr; exact rfl) | (apply EvW.fieldAddr0; exact rfl; exact FldC.eq) | (apply EvW.fieldAddr; exact rfl; exact FldC.eq) | (apply EvW.load; exact rfl; exact ScalC.eq; (focus ((repeat (first | exact Take.head | apply Take.tail)); done)); exact rfl) | (apply EvW.lenL; exact rfl; exact UndC.eq) | (apply EvW.cmpT; exact rfl; exact rfl; exact rfl; omega) | (apply EvW.cmpF; exact rfl; exact rfl; exact rfl; omega) | (apply EvW.cmp; exact rfl; exact rfl; exact rfl) | (apply EvW.arN; exact rfl; exact rfl; exact rfl; refine i64_in ?_ ?_ <;> omega) | (apply EvW.ar; exact rfl; exact rfl; exact rfl) | (apply EvW.lenRow; exact rfl; exact UndC.eq; assumption) | (apply EvW.lenOwn; exact rfl; exact UndC.eq; (focus ((repeat (first | exact Take.head | apply Take.tail)); done))) | (apply EvW.ldInt; exact rfl; exact ScalC.eq; assumption; omega) | (apply EvW.ldIntOwn; exact rfl; exact ScalC.eq; (focus ((repeat (first | exact Take.head | apply Take.tail)); done)); omega) | (apply EvW.fldRow; exact rfl; exact FldC.eq; assumption; omega) | (apply EvW.fldOwn; exact rfl; exact FldC.eq; (focus ((repeat (first | exact Take.head | apply Take.tail)); done)); omega)))
      | refine WC.seq ?_ | refine WC.region ?_ | refine WL.nil ?_ | refine WE.next ?_ | refine WC.skip ?_ | refine WC.exit ?_ | refine WE.pass ?_ | refine WE.hit ?_ | refine WE.miss rfl ?_ | refine WE.out ?_ | refine WC.condT rfl ?_ | refine WC.condF rfl ?_ | refine WC.ret ?_ | refine WE.passRet ?_ | refine WE.outRet ?_ | refine WL.wanted rfl rfl rfl ?_ | (apply WL.store; exact rfl; exact rfl; (first | assumption | exact rfl); exact SzC.eq; (first | assumption | exact rfl); (focus ((repeat (first | apply UpdC.head | apply UpdC.tail | exact SetMany.nil | apply SetMany.cons | apply SetMany.succ)); done)))
    try refine WL.wanted rfl rfl rfl ?_
    apply WL.callT
    · exact rfl
    · exact rfl
    · exact fun w1 S1 hS1 hs1 ho1 => well_spec b 83 (if m.e = 0 then (2 : Int) else m.e) [v, i64 m.lim] w1 S1 hS1
    · exact fun w => Try.call48 _ w
    · (focus ((repeat (first | exact TakeL.nil | apply TakeL.cons | exact Take.head | apply Take.tail)); done))
    rintro _ _ ⟨rfl, rfl⟩
    first | refine WL.app4 ?_ | refine WL.app3 ?_ | refine WL.app2 ?_ | refine WL.app1 ?_ | refine WL.app0 ?_ | skip
    have hne : ¬ (if m.e = 0 then (2 : Int) else m.e) = 0 := by split <;> omega
    simp only [decide_eq_false hne]
    repeat first
      | (apply WL.q; exact rfl; exact rfl; exact rfl; (first | (apply EvW.move; exact rfl) | (apply EvW.nilPtr; exact rfl) | (apply EvW.fieldAddr0; exact rfl; exact FldC.eq) | (apply EvW.fieldAddr; exact rfl; exact FldC.eq) | (apply EvW.load; exact rfl; exact ScalC.eq; (focus ((repeat (first | exact Take.head | apply Take.tail)); done)); exact rfl) | (apply EvW.lenL; exact rfl; exact UndC.eq) | (apply EvW.cmpT; exact rfl; exact rfl; exact rfl; omega) | (apply EvW.cmpF; exact rfl; exact rfl; exact rfl; omega) | (apply EvW.cmp; exact rfl; exact rfl; exact rfl) | (apply EvW.arN; exact rfl; exact rfl; exact rfl; refine i64_in ?_ ?_ <;> omega) | (apply EvW.ar; exact rfl; exact rfl; exact rfl) | (apply EvW.lenRow; exact rfl; exact UndC.eq; assumption) | (apply EvW.lenOwn; exact rfl; exact UndC.eq; (focus ((repeat (first | exact Take.head | apply Take.tail)); done))) | (apply EvW.ldInt; exact rfl; exact ScalC.eq; assumption; omega) | (apply EvW.ldIntOwn; exact rfl; exact ScalC.eq; (focus ((repeat (first | exact Take.head | apply Take.tail)); done)); omega) | (apply EvW.fldRow; exact rfl; exact FldC.eq; assumption; omega) | (apply EvW.fldOwn; exact rfl; exact FldC.eq; (focus ((repeat (first | exact Take.head | apply Take.tail)); done)); omega)))
      | refine WC.seq ?_ | refine WC.region ?_ | refine WL.nil ?_ | refine WE.next ?_ | refine WC.skip ?_ | refine WC.exit ?_ | refine WE.pass ?_ | refine WE.hit ?_ | refine WE.miss rfl ?_ | refine WE.out ?_ | refine WC.condT rfl ?_ | refine WC.condF rfl ?_ | refine WC.ret ?_ | refine WE.passRet ?_ | refine WE.outRet ?_ | refine WL.wanted rfl rfl rfl ?_ | (apply WL.store; exact rfl; exact rfl; (first | assumption | exact rfl); exact SzC.eq; (first | assumption | exact rfl); (focus ((repeat (first | apply UpdC.head | apply UpdC.tail | exact SetMany.nil | apply SetMany.cons | apply SetMany.succ)); done)))
    refine WE.keep (xs := [.own 5 1 v m.out.length (m.out.map byt), .blk b #[i64 (m.note 2).e, v, i64 m.lim] 83]) (by (focus ((repeat (first | exact TakeL.nil | apply TakeL.cons | exact Take.head | apply Take.tail)); done))) ?_
    first | refine WE.end0 rfl ?_ | refine WE.ret0 rfl ?_
    exact ⟨rfl, v, rfl⟩
  · by_cases he : m.e = 0
    · have hm : m.put bs = m.add bs := by simp [PW.put, h, he]
      rw [hm]
      repeat refine WC.seq ?_
      apply WC.drawQ Try.mixed
      · (focus ((repeat (first | exact Restr.nil | (apply Restr.keep; exact rfl; exact rfl) | (apply Restr.drop; exact rfl))); done))
      · exact rfl
      · decide +kernel
      · decide +kernel
      · repeat first
          | exact Draws.nil
          | (apply Draws.skip; exact rfl; exact rfl)
          | (apply Draws.q0; exact rfl
             (first | (apply EvW.move; exact rfl) | (apply EvW.nilPtr; exact rfl) | (apply EvW.fieldAddr0; exact rfl; exact FldC.eq) | (apply EvW.fieldAddr; exact rfl; exact FldC.eq) | (apply EvW.load; exact rfl; exact ScalC.eq; (focus ((repeat (first | exact Take.head | apply Take.tail)); done)); exact rfl) | (apply EvW.lenL; exact rfl; exact UndC.eq) | (apply EvW.cmpT; exact rfl; exact rfl; exact rfl; omega) | (apply EvW.cmpF; exact rfl; exact rfl; exact rfl; omega) | (apply EvW.cmp; exact rfl; exact rfl; exact rfl) | (apply EvW.arN; exact rfl; exact rfl; exact rfl; refine i64_in ?_ ?_ <;> omega) | (apply EvW.ar; exact rfl; exact rfl; exact rfl) | (apply EvW.lenRow; exact rfl; exact UndC.eq; assumption) | (apply EvW.lenOwn; exact rfl; exact UndC.eq; (focus ((repeat (first | exact Take.head | apply Take.tail)); done))) | (apply EvW.ldInt; exact rfl; exact ScalC.eq; assumption; omega) | (apply EvW.ldIntOwn; exact rfl; exact ScalC.eq; (focus ((repeat (first | exact Take.head | apply Take.tail)); done)); omega) | (apply EvW.fldRow; exact rfl; exact FldC.eq; assumption; omega) | (apply EvW.fldOwn; exact rfl; exact FldC.eq; (focus ((repeat (first | exact Take.head | apply Take.tail)); done)); omega)))
      apply WE.writ
      · (focus ((repeat (first | exact Writ.nil | apply Writ.some | apply Writ.none)); done))
      repeat first
        | (apply WL.q; exact rfl; exact rfl; exact rfl; (first | (apply EvW.move; exact rfl) | (apply EvW.nilPtr; exact rfl) | (apply EvW.fieldAddr0; exact rfl; exact FldC.eq) | (apply EvW.fieldAddr; exact rfl; exact FldC.eq) | (apply EvW.load; exact rfl; exact ScalC.eq; (focus ((repeat (first | exact Take.head | apply Take.tail)); done)); exact rfl) | (apply EvW.lenL; exact rfl; exact UndC.eq) | (apply EvW.cmpT; exact rfl; exact rfl; exact rfl; omega) | (apply EvW.cmpF; exact rfl; exact rfl; exact rfl; omega) | (apply EvW.cmp; exact rfl; exact rfl; exact rfl) | (apply EvW.arN; exact rfl; exact rfl; exact rfl; refine i64_in ?_ ?_ <;> omega) | (apply EvW.ar; exact rfl; exact rfl; exact rfl) | (apply EvW.lenRow; exact rfl; exact UndC.eq; assumption) | (apply EvW.lenOwn; exact rfl; exact UndC.eq; (focus ((repeat (first | exact Take.head | apply Take.tail)); done))) | (apply EvW.ldInt; exact rfl; exact ScalC.eq; assumption; omega) | (apply EvW.ldIntOwn; exact rfl; exact ScalC.eq; (focus ((repeat (first | exact Take.head | apply Take.tail)); done)); omega) | (apply EvW.fldRow; exact rfl; exact FldC.eq; assumption; omega) | (apply EvW.fldOwn; exact rfl; exact FldC.eq; (focus ((repeat (first | exact Take.head | apply Take.tail)); done)); omega)))
        | refine WC.seq ?_ | refine WC.region ?_ | refine WL.nil ?_ | refine WE.next ?_ | refine WC.skip ?_ | refine WC.exit ?_ | refine WE.pass ?_ | refine WE.hit ?_ | refine WE.miss rfl ?_ | refine WE.out ?_ | refine WC.condT rfl ?_ | refine WC.condF rfl ?_ | refine WC.ret ?_ | refine WE.passRet ?_ | refine WE.outRet ?_ | refine WL.wanted rfl rfl rfl ?_ | (apply WL.store; exact rfl; exact rfl; (first | assumption | exact rfl); exact SzC.eq; (first | assumption | exact rfl); (focus ((repeat (first | apply UpdC.head | apply UpdC.tail | exact SetMany.nil | apply SetMany.cons | apply SetMany.succ)); done)))
      try refine WL.wanted rfl rfl rfl ?_
      apply WL.callT
      · exact rfl
      · exact rfl
      · exact fun w1 S1 hS1 hs1 ho1 => well_spec b 83 m.e [v, i64 m.lim] w1 S1 hS1
      · exact fun w => Try.call48 _ w
      · (focus ((repeat (first | exact TakeL.nil | apply TakeL.cons | exact Take.head | apply Take.tail)); done))
      rintro _ _ ⟨rfl, rfl⟩
      first | refine WL.app4 ?_ | refine WL.app3 ?_ | refine WL.app2 ?_ | refine WL.app1 ?_ | refine WL.app0 ?_ | skip
      simp only [decide_eq_true he]
      repeat first
        | (apply WL.q; exact rfl; exact rfl; exact rfl; (first | (apply EvW.move; exact rfl) | (apply EvW.nilPtr; exact rfl) | (apply EvW.fieldAddr0; exact rfl; exact FldC.eq) | (apply EvW.fieldAddr; exact rfl; exact FldC.eq) | (apply EvW.load; exact rfl; exact ScalC.eq; (focus ((repeat (first | exact Take.head | apply Take.tail)); done)); exact rfl) | (apply EvW.lenL; exact rfl; exact UndC.eq) | (apply EvW.cmpT; exact rfl; exact rfl; exact rfl; omega) | (apply EvW.cmpF; exact rfl; exact rfl; exact rfl; omega) | (apply EvW.cmp; exact rfl; exact rfl; exact rfl) | (apply EvW.arN; exact rfl; exact rfl; exact rfl; refine i64_in ?_ ?_ <;> omega) | (apply EvW.ar; exact rfl; exact rfl; exact rfl) | (apply EvW.lenRow; exact rfl; exact UndC.eq; assumption) | (apply EvW.lenOwn; exact rfl; exact UndC.eq; (focus ((repeat (first | exact Take.head | apply Take.tail)); done))) | (apply EvW.ldInt; exact rfl; exact ScalC.eq; assumption; omega) | (apply EvW.ldIntOwn; exact rfl; exact ScalC.eq; (focus ((repeat (first | exact Take.head | apply Take.tail)); done)); omega) | (apply EvW.fldRow; exact rfl; exact FldC.eq; assumption; omega) | (apply EvW.fldOwn; exact rfl; exact FldC.eq; (focus ((repeat (first | exact Take.head | apply Take.tail)); done)); omega)))
        | refine WC.seq ?_ | refine WC.region ?_ | refine WL.nil ?_ | refine WE.next ?_ | refine WC.skip ?_ | refine WC.exit ?_ | refine WE.pass ?_ | refine WE.hit ?_ | refine WE.miss rfl ?_ | refine WE.out ?_ | refine WC.condT rfl ?_ | refine WC.condF rfl ?_ | refine WC.ret ?_ | refine WE.passRet ?_ | refine WE.outRet ?_ | refine WL.wanted rfl rfl rfl ?_ | (apply WL.store; exact rfl; exact rfl; (first | assumption | exact rfl); exact SzC.eq; (first | assumption | exact rfl); (focus ((repeat (first | apply UpdC.head | apply UpdC.tail | exact SetMany.nil | apply SetMany.cons | apply SetMany.succ)); done)))
      try refine WL.wanted rfl rfl rfl ?_
      (apply WL.append; exact rfl; exact rfl; exact rfl; exact UndC.eq; exact SzC.eq; exact ByC.eq; exact ZvC.eq; exact rfl; (first | exact notInt_sl UndC.eq | exact notInt_st UndC.eq); exact rfl; (focus ((repeat (first | exact Take.head | apply Take.tail)); done)))
      · exact adds_row hb all_one
      · (have := hroom h; omega)
      intro v2
      refine WL.ownEq (cs' := (m.out ++ bs).map byt) (len' := (m.out ++ bs).length) .head (by simp) (by simp) ?_
      (first | refine WL.slOwn (v := v2) (by (focus ((repeat (first | exact Take.head | apply Take.tail)); done))) ?_ | refine WC.slOwn (v := v2) (by (focus ((repeat (first | exact Take.head | apply Take.tail)); done))) ?_)
      intro hc_v2 ho_v2
      repeat first
        | (apply WL.q; exact rfl; exact rfl; exact rfl; (first | (apply EvW.move; exact rfl) | (apply EvW.nilPtr; exact rfl) | (apply EvW.fieldAddr0; exact rfl; exact FldC.eq) | (apply EvW.fieldAddr; exact rfl; exact FldC.eq) | (apply EvW.load; exact rfl; exact ScalC.eq; (focus ((repeat (first | exact Take.head | apply Take.tail)); done)); exact rfl) | (apply EvW.lenL; exact rfl; exact UndC.eq) | (apply EvW.cmpT; exact rfl; exact rfl; exact rfl; omega) | (apply EvW.cmpF; exact rfl; exact rfl; exact rfl; omega) | (apply EvW.cmp; exact rfl; exact rfl; exact rfl) | (apply EvW.arN; exact rfl; exact rfl; exact rfl; refine i64_in ?_ ?_ <;> omega) | (apply EvW.ar; exact rfl; exact rfl; exact rfl) | (apply EvW.lenRow; exact rfl; exact UndC.eq; assumption) | (apply EvW.lenOwn; exact rfl; exact UndC.eq; (focus ((repeat (first | exact Take.head | apply Take.tail)); done))) | (apply EvW.ldInt; exact rfl; exact ScalC.eq; assumption; omega) | (apply EvW.ldIntOwn; exact rfl; exact ScalC.eq; (focus ((repeat (first | exact Take.head | apply Take.tail)); done)); omega) | (apply EvW.fldRow; exact rfl; exact FldC.eq; assumption; omega) | (apply EvW.fldOwn; exact rfl; exact FldC.eq; (focus ((repeat (first | exact Take.head | apply Take.tail)); done)); omega)))
        | refine WC.seq ?_ | refine WC.region ?_ | refine WL.nil ?_ | refine WE.next ?_ | refine WC.skip ?_ | refine WC.exit ?_ | refine WE.pass ?_ | refine WE.hit ?_ | refine WE.miss rfl ?_ | refine WE.out ?_ | refine WC.condT rfl ?_ | refine WC.condF rfl ?_ | refine WC.ret ?_ | refine WE.passRet ?_ | refine WE.outRet ?_ | refine WL.wanted rfl rfl rfl ?_ | (apply WL.store; exact rfl; exact rfl; (first | assumption | exact rfl); exact SzC.eq; (first | assumption | exact rfl); (focus ((repeat (first | apply UpdC.head | apply UpdC.tail | exact SetMany.nil | apply SetMany.cons | apply SetMany.succ)); done)))
      exact WE.end0 rfl ⟨rfl, v2, rfl⟩
    · have hm : m.put bs = m := by simp [PW.put, h, he]
      rw [hm]
      repeat refine WC.seq ?_
      apply WC.drawQ Try.mixed
      · (focus ((repeat (first | exact Restr.nil | (apply Restr.keep; exact rfl; exact rfl) | (apply Restr.drop; exact rfl))); done))
      · exact rfl
      · decide +kernel
      · decide +kernel
      · repeat first
          | exact Draws.nil
          | (apply Draws.skip; exact rfl; exact rfl)
          | (apply Draws.q0; exact rfl
             (first | (apply EvW.move; exact rfl) | (apply EvW.nilPtr; exact rfl) | (apply EvW.fieldAddr0; exact rfl; exact FldC.eq) | (apply EvW.fieldAddr; exact rfl; exact FldC.eq) | (apply EvW.load; exact rfl; exact ScalC.eq; (focus ((repeat (first | exact Take.head | apply Take.tail)); done)); exact rfl) | (apply EvW.lenL; exact rfl; exact UndC.eq) | (apply EvW.cmpT; exact rfl; exact rfl; exact rfl; omega) | (apply EvW.cmpF; exact rfl; exact rfl; exact rfl; omega) | (apply EvW.cmp; exact rfl; exact rfl; exact rfl) | (apply EvW.arN; exact rfl; exact rfl; exact rfl; refine i64_in ?_ ?_ <;> omega) | (apply EvW.ar; exact rfl; exact rfl; exact rfl) | (apply EvW.lenRow; exact rfl; exact UndC.eq; assumption) | (apply EvW.lenOwn; exact rfl; exact UndC.eq; (focus ((repeat (first | exact Take.head | apply Take.tail)); done))) | (apply EvW.ldInt; exact rfl; exact ScalC.eq; assumption; omega) | (apply EvW.ldIntOwn; exact rfl; exact ScalC.eq; (focus ((repeat (first | exact Take.head | apply Take.tail)); done)); omega) | (apply EvW.fldRow; exact rfl; exact FldC.eq; assumption; omega) | (apply EvW.fldOwn; exact rfl; exact FldC.eq; (focus ((repeat (first | exact Take.head | apply Take.tail)); done)); omega)))
      apply WE.writ
      · (focus ((repeat (first | exact Writ.nil | apply Writ.some | apply Writ.none)); done))
      repeat first
        | (apply WL.q; exact rfl; exact rfl; exact rfl; (first | (apply EvW.move; exact rfl) | (apply EvW.nilPtr; exact rfl) | (apply EvW.fieldAddr0; exact rfl; exact FldC.eq) | (apply EvW.fieldAddr; exact rfl; exact FldC.eq) | (apply EvW.load; exact rfl; exact ScalC.eq; (focus ((repeat (first | exact Take.head | apply Take.tail)); done)); exact rfl) | (apply EvW.lenL; exact rfl; exact UndC.eq) | (apply EvW.cmpT; exact rfl; exact rfl; exact rfl; omega) | (apply EvW.cmpF; exact rfl; exact rfl; exact rfl; omega) | (apply EvW.cmp; exact rfl; exact rfl; exact rfl) | (apply EvW.arN; exact rfl; exact rfl; exact rfl; refine i64_in ?_ ?_ <;> omega) | (apply EvW.ar; exact rfl; exact rfl; exact rfl) | (apply EvW.lenRow; exact rfl; exact UndC.eq; assumption) | (apply EvW.lenOwn; exact rfl; exact UndC.eq; (focus ((repeat (first | exact Take.head | apply Take.tail)); done))) | (apply EvW.ldInt; exact rfl; exact ScalC.eq; assumption; omega) | (apply EvW.ldIntOwn; exact rfl; exact ScalC.eq; (focus ((repeat (first | exact Take.head | apply Take.tail)); done)); omega) | (apply EvW.fldRow; exact rfl; exact FldC.eq; assumption; omega) | (apply EvW.fldOwn; exact rfl; exact FldC.eq; (focus ((repeat (first | exact Take.head | apply Take.tail)); done)); omega)))
        | refine WC.seq ?_ | refine WC.region ?_ | refine WL.nil ?_ | refine WE.next ?_ | refine WC.skip ?_ | refine WC.exit ?_ | refine WE.pass ?_ | refine WE.hit ?_ | refine WE.miss rfl ?_ | refine WE.out ?_ | refine WC.condT rfl ?_ | refine WC.condF rfl ?_ | refine WC.ret ?_ | refine WE.passRet ?_ | refine WE.outRet ?_ | refine WL.wanted rfl rfl rfl ?_ | (apply WL.store; exact rfl; exact rfl; (first | assumption | exact rfl); exact SzC.eq; (first | assumption | exact rfl); (focus ((repeat (first | apply UpdC.head | apply UpdC.tail | exact SetMany.nil | apply SetMany.cons | apply SetMany.succ)); done)))
      try refine WL.wanted rfl rfl rfl ?_
      apply WL.callT
      · exact rfl
      · exact rfl
      · exact fun w1 S1 hS1 hs1 ho1 => well_spec b 83 m.e [v, i64 m.lim] w1 S1 hS1
      · exact fun w => Try.call48 _ w
      · (focus ((repeat (first | exact TakeL.nil | apply TakeL.cons | exact Take.head | apply Take.tail)); done))
      rintro _ _ ⟨rfl, rfl⟩
      first | refine WL.app4 ?_ | refine WL.app3 ?_ | refine WL.app2 ?_ | refine WL.app1 ?_ | refine WL.app0 ?_ | skip
      simp only [decide_eq_false he]
      repeat first
        | (apply WL.q; exact rfl; exact rfl; exact rfl; (first | (apply EvW.move; exact rfl) | (apply EvW.nilPtr; exact rfl) | (apply EvW.fieldAddr0; exact rfl; exact FldC.eq) | (apply EvW.fieldAddr; exact rfl; exact FldC.eq) | (apply EvW.load; exact rfl; exact ScalC.eq; (focus ((repeat (first | exact Take.head | apply Take.tail)); done)); exact rfl) | (apply EvW.lenL; exact rfl; exact UndC.eq) | (apply EvW.cmpT; exact rfl; exact rfl; exact rfl; omega) | (apply EvW.cmpF; exact rfl; exact rfl; exact rfl; omega) | (apply EvW.cmp; exact rfl; exact rfl; exact rfl) | (apply EvW.arN; exact rfl; exact rfl; exact rfl; refine i64_in ?_ ?_ <;> omega) | (apply EvW.ar; exact rfl; exact rfl; exact rfl) | (apply EvW.lenRow; exact rfl; exact UndC.eq; assumption) | (apply EvW.lenOwn; exact rfl; exact UndC.eq; (focus ((repeat (first | exact Take.head | apply Take.tail)); done))) | (apply EvW.ldInt; exact rfl; exact ScalC.eq; assumption; omega) | (apply EvW.ldIntOwn; exact rfl; exact ScalC.eq; (focus ((repeat (first | exact Take.head | apply Take.tail)); done)); omega) | (apply EvW.fldRow; exact rfl; exact FldC.eq; assumption; omega) | (apply EvW.fldOwn; exact rfl; exact FldC.eq; (focus ((repeat (first | exact Take.head | apply Take.tail)); done)); omega)))
        | refine WC.seq ?_ | refine WC.region ?_ | refine WL.nil ?_ | refine WE.next ?_ | refine WC.skip ?_ | refine WC.exit ?_ | refine WE.pass ?_ | refine WE.hit ?_ | refine WE.miss rfl ?_ | refine WE.out ?_ | refine WC.condT rfl ?_ | refine WC.condF rfl ?_ | refine WC.ret ?_ | refine WE.passRet ?_ | refine WE.outRet ?_ | refine WL.wanted rfl rfl rfl ?_ | (apply WL.store; exact rfl; exact rfl; (first | assumption | exact rfl); exact SzC.eq; (first | assumption | exact rfl); (focus ((repeat (first | apply UpdC.head | apply UpdC.tail | exact SetMany.nil | apply SetMany.cons | apply SetMany.succ)); done)))
      refine WE.keep (xs := [.own 5 1 v m.out.length (m.out.map byt), .blk b #[i64 m.e, v, i64 m.lim] 83]) (by (focus ((repeat (first | exact TakeL.nil | apply TakeL.cons | exact Take.head | apply Take.tail)); done))) ?_
      first | refine WE.end0 rfl ?_ | refine WE.ret0 rfl ?_
      exact ⟨rfl, v, rfl⟩
end Go.Proofs.Ytgcpoehchohleaa
