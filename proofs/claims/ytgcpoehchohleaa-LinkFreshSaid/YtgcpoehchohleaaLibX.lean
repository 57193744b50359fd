/- Maps whose keys are strings. No program in sight. -/
import Derived.Test.YtgcpoehchohleaaLibV
import Derived.MapKept
namespace Go.BK
open Go.RowKit Go.MapKept

section
variable {P : Program} {w0 : World} {S0 : BSet} {n : Nat} {F : Fr} {A : List HP} {dd : Option Tmp} {T : TypeId} {pos : String} {af : Array Edge} {x y : Operand} {t ty : TypeId} {g : Option (Nat × Bool)} {ops : Array Oper} {rest : List Oper} {Q : Exit → Act → World → Prop} {d : Tmp}
theorem bytesEq (a b : List UInt8) : ((⟨a.toArray⟩ : ByteArray) == ⟨b.toArray⟩) = decide (a = b) := by
  show (a.toArray == b.toArray) = decide (a = b)
  rw [List.beq_toArray]
  cases h : decide (a = b) <;> simp_all
/-! Maps whose keys are strings -/
def smget (a : List UInt8) : List (List UInt8 × Value) → Option Value
  | [] => none
  | p :: m => if a = p.1 then some p.2 else smget a m
def smput (a : List UInt8) (v : Value) : List (List UInt8 × Value) → List (List UInt8 × Value)
  | [] => [(a, v)]
  | p :: m => if a = p.1 then (a, v) :: m else p :: smput a v m
def smdel (a : List UInt8) : List (List UInt8 × Value) → List (List UInt8 × Value)
  | [] => []
  | p :: m => if a = p.1 then m else p :: smdel a m
theorem smget_put (a b : List UInt8) (v : Value) : ∀ m, smget b (smput a v m) = if b = a then some v else smget b m
  | [] => by
    unfold smput smget
    by_cases h : b = a
    · rw [if_pos h, if_pos h]
    · rw [if_neg h, if_neg h]; rfl
  | p :: m => by
    unfold smput
    by_cases h : a = p.1
    · rw [if_pos h]
      by_cases h2 : b = a
      · simp only [smget, h2, if_pos]
      · simp only [smget, if_neg h2, if_neg (show ¬ b = p.1 from fun e => h2 (e.trans h.symm))]
    · rw [if_neg h]
      by_cases h3 : b = p.1
      · have h4 : ¬ b = a := fun e => h (e.symm.trans h3)
        simp only [smget, if_pos h3, if_neg h4]
      · simp only [smget, if_neg h3]
        exact smget_put a b v m
def smdist : List (List UInt8 × Value) → Prop
  | [] => True
  | p :: m => smget p.1 m = none ∧ smdist m
theorem smdist_put (a : List UInt8) (v : Value) : ∀ m, smdist m → smdist (smput a v m)
  | [], _ => ⟨rfl, trivial⟩
  | p :: m, h => by
    unfold smput
    by_cases k : a = p.1
    · rw [if_pos k, k]; exact h
    · rw [if_neg k]
      refine ⟨?_, smdist_put a v m h.2⟩
      rw [smget_put, if_neg (Ne.symm k)]; exact h.1
theorem smget_del (a b : List UInt8) : ∀ m, smdist m → smget b (smdel a m) = if b = a then none else smget b m
  | [], _ => by simp [smget, smdel]
  | p :: m, h => by
    unfold smdel
    by_cases k : a = p.1
    · rw [if_pos k]
      by_cases h2 : b = a
      · rw [if_pos h2, h2, k]; exact h.1
      · rw [if_neg h2]
        simp only [smget, if_neg (show ¬ b = p.1 from fun e => h2 (e.trans k.symm))]
    · rw [if_neg k]
      by_cases h3 : b = p.1
      · have h4 : ¬ b = a := fun e => k (e.symm.trans h3)
        simp only [smget, if_pos h3, if_neg h4]
      · simp only [smget, if_neg h3]
        exact smget_del a b m h.2
theorem smdist_del (a : List UInt8) : ∀ m, smdist m → smdist (smdel a m)
  | [], _ => trivial
  | p :: m, h => by
    unfold smdel
    by_cases k : a = p.1
    · rw [if_pos k]; exact h.2
    · rw [if_neg k]
      refine ⟨?_, smdist_del a m h.2⟩
      rw [smget_del _ _ _ h.2, if_neg (Ne.symm k)]; exact h.1
def SEntOk (es : List MapEntry) (m : List (List UInt8 × Value)) : Prop := es.map (fun e => (e.key, e.val)) = m.map fun p => (str p.1, p.2)
/-- Block b is a map of ints to values: these entries, in the order in which they came. -/
def HP.smap (b : Nat) (m : List (List UInt8 × Value)) : HP where
  sat S w := (∀ x, S x ↔ x = b) ∧ ∃ es clock, w.heap[b]? = some (.map es clock) ∧ SEntOk es.toList m
  loc := fun ⟨h1, es, cl, h2, h3⟩ hk => ⟨h1, es, cl, by rw [hk b ((h1 b).2 rfl)]; exact h2, h3⟩
  bnd := fun {_ _ x} ⟨h1, _, _, h2, _⟩ hb => by rw [(h1 x).1 hb]; exact lt_of_get h2
def smfind (a : List UInt8) : List (List UInt8 × Value) → Nat → Option (Nat × Value)
  | [], _ => none
  | p :: m, i => if a = p.1 then some (i, p.2) else smfind a m (i + 1)
theorem sfindNow_int {a : List UInt8} : ∀ (es : List MapEntry) (m : List (List UInt8 × Value)) (i : Nat), SEntOk es m → Instr.findNow .string (str a) es i = some (smfind a m i)
  | [], [], _, _ => rfl
  | [], _ :: _, _, h => by simp [SEntOk] at h
  | _ :: _, [], _, h => by simp [SEntOk] at h
  | e :: es, p :: m, i, h => by
    simp only [SEntOk, List.map_cons, List.cons.injEq, Prod.mk.injEq] at h
    unfold Instr.findNow smfind
    rw [h.1.1, show Instr.sameNow .string (str a) (str p.1) = some (decide (a = p.1)) from by simp only [Instr.sameNow, bytesEq]]
    by_cases hp : a = p.1
    · rw [if_pos hp, decide_eq_true hp, h.1.2]
    · rw [if_neg hp, decide_eq_false hp]
      exact sfindNow_int es m (i + 1) h.2
theorem smfind_get (a : List UInt8) : ∀ (m : List (List UInt8 × Value)) (i : Nat), (smfind a m i).map (·.2) = smget a m
  | [], _ => rfl
  | p :: m, i => by
    unfold smfind smget
    by_cases h : a = p.1
    · rw [if_pos h, if_pos h]; rfl
    · rw [if_neg h, if_neg h]; exact smfind_get a m (i + 1)
theorem smfind_put {a : List UInt8} {v : Value} : ∀ (m : List (List UInt8 × Value)) (i : Nat), (smfind a m i = none → smput a v m = m ++ [(a, v)]) ∧ ∀ j q, smfind a m i = some (j, q) → i ≤ j ∧ j - i < m.length ∧ (m.getD (j - i) ([], q)).1 = a ∧ smput a v m = m.set (j - i) (a, v) ∧ smdel a m = m.eraseIdx (j - i)
  | [], i => ⟨fun _ => rfl, fun j q h => by simp [smfind] at h⟩
  | p :: m, i => by
    have ih := smfind_put (a := a) (v := v) m (i + 1)
    unfold smfind smput smdel
    by_cases hp : a = p.1
    · rw [if_pos hp, if_pos hp, if_pos hp]
      refine ⟨fun h => by simp at h, fun j q h => ?_⟩
      simp only [Option.some.injEq, Prod.mk.injEq] at h
      obtain ⟨rfl, rfl⟩ := h
      refine ⟨Nat.le_refl _, by simp, ?_, by simp, by simp⟩
      simp [hp]
    · rw [if_neg hp, if_neg hp, if_neg hp]
      refine ⟨fun h => by rw [ih.1 h]; rfl, fun j q h => ?_⟩
      obtain ⟨h1, h2, h3, h4, h5⟩ := ih.2 j q h
      have e : j - i = (j - (i + 1)) + 1 := by omega
      refine ⟨by omega, by simp only [List.length_cons]; omega, ?_, ?_, ?_⟩
      · rw [e]; simpa using h3
      · rw [e, h4]; rfl
      · rw [e, h5]; rfl
theorem smfind_none_del {a : List UInt8} : ∀ (m : List (List UInt8 × Value)) (i : Nat), smfind a m i = none → smdel a m = m
  | [], _, _ => rfl
  | p :: m, i, h => by
    unfold smfind at h
    unfold smdel
    by_cases hp : a = p.1
    · rw [if_pos hp] at h; simp at h
    · rw [if_neg hp] at h ⊢
      rw [smfind_none_del m (i + 1) h]
theorem srunCheckInt {w : World} {e : Bool} {k : TypeId} {a : List UInt8} (hk : P.underlying k = some (.string)) : (Instr.checkKey e 10000 k (str a)).run P w = .ok () w := by
  unfold Instr.checkKey
  simp only [Sem.run_bind, run_underlying hk, Result.andThen, Sem.run_pure]
theorem srunFindInt {w : World} {k : TypeId} {a : List UInt8} {es : List MapEntry} {m : List (List UInt8 × Value)} (hk : P.underlying k = some (.string)) (hE : SEntOk es m) : (Instr.findKey k (str a) es).run P w = .ok (smfind a m 0) w := by
  simp [Instr.findKey, run_underlying hk, Result.andThen, sfindNow_int (a := a) es m 0 hE]
theorem ssameBits_int (a : List UInt8) : ∀ n, Instr.sameBits n (str a) (str a) = true
  | 0 => by simp only [Instr.sameBits, bytesEq, decide_true]
  | n + 1 => by simp only [Instr.sameBits, bytesEq, decide_true]
theorem srunStays {w : World} {a : List UInt8} : (Instr.keyThatStays (str a) (str a)).run P w = .ok (str a) w := by
  unfold Instr.keyThatStays
  rw [ssameBits_int, if_pos rfl]
  rfl
theorem EvW.lookupS {k e : TypeId} {b : Nat} {m : List (List UInt8 × Value)} {a : List UInt8} {z : Value} {r : List HP} (hx : ev F x = some (.map (some b))) (hy : ev F y = some (str a)) (hu : P.underlying t = some (.map k e)) (hk : P.underlying k = some (.string)) (hz : zvB P e = some z) (ht : Take (.smap b m) A r) :
    EvW P w0 S0 n F A ⟨dd, .lookup t x y false, T, pos, af, g⟩ ((smget a m).getD z) :=
  .pure fun a' w ha hst => by
    obtain ⟨S, _, es, cl, h2, h3⟩ := hst.take ht
    have hz' := runZv (w := w) hz
    have hf := smfind_get a m 0
    simp only [execOp, ha.eval hx, ha.eval hy, Instr.lookup, Sem.run_bind, run_underlying hu, Result.andThen, Go.MapKept.run_getObj_map h2, Sem.run_pure, srunCheckInt hk, srunFindInt hk h3]
    cases hm : smfind a m 0 with
    | none => rw [hm] at hf; simp [← hf, hz', Result.andThen]
    | some p => rw [hm] at hf; simp [← hf]
theorem EvW.lookupOkS {k e : TypeId} {b : Nat} {m : List (List UInt8 × Value)} {a : List UInt8} {z : Value} {r : List HP} (hx : ev F x = some (.map (some b))) (hy : ev F y = some (str a)) (hu : P.underlying t = some (.map k e)) (hk : P.underlying k = some (.string)) (hz : zvB P e = some z) (ht : Take (.smap b m) A r) :
    EvW P w0 S0 n F A ⟨dd, .lookup t x y true, T, pos, af, g⟩ (.tuple #[(smget a m).getD z, .bool (smget a m).isSome]) :=
  .pure fun a' w ha hst => by
    obtain ⟨S, _, es, cl, h2, h3⟩ := hst.take ht
    have hz' := runZv (w := w) hz
    have hf := smfind_get a m 0
    simp only [execOp, ha.eval hx, ha.eval hy, Instr.lookup, Sem.run_bind, run_underlying hu, Result.andThen, Go.MapKept.run_getObj_map h2, Sem.run_pure, srunCheckInt hk, srunFindInt hk h3]
    cases hm : smfind a m 0 with
    | none => rw [hm] at hf; simp [← hf, hz', Result.andThen]
    | some p => rw [hm] at hf; simp [← hf]
theorem SEntOk.modify {es : List MapEntry} {m : List (List UInt8 × Value)} {a : List UInt8} {v : Value} {i : Nat} {f : MapEntry → MapEntry} (hE : SEntOk es m) (hf : ∀ e, ((f e).key, (f e).val) = (str a, v)) : SEntOk (es.modify i f) (m.set i (a, v)) := by
  induction es generalizing m i with
  | nil =>
    cases m with
    | nil => cases i <;> simp [SEntOk]
    | cons p m => simp [SEntOk] at hE
  | cons e es ih =>
    cases m with
    | nil => simp [SEntOk] at hE
    | cons p m =>
      simp only [SEntOk, List.map_cons, List.cons.injEq] at hE
      cases i with
      | zero => simp only [SEntOk, List.modify_zero_cons, List.set_cons_zero, List.map_cons, hf, hE.2]
      | succ i =>
        have := ih (m := m) (i := i) hE.2
        simp only [SEntOk, List.modify_succ_cons, List.set_cons_succ, List.map_cons, hE.1] at this ⊢
        rw [this]
theorem SEntOk.erase {es : List MapEntry} {m : List (List UInt8 × Value)} {i : Nat} (hE : SEntOk es m) : SEntOk (es.eraseIdx i) (m.eraseIdx i) := by
  induction es generalizing m i with
  | nil =>
    cases m with
    | nil => cases i <;> simp [SEntOk]
    | cons p m => simp [SEntOk] at hE
  | cons e es ih =>
    cases m with
    | nil => simp [SEntOk] at hE
    | cons p m =>
      simp only [SEntOk, List.map_cons, List.cons.injEq] at hE
      cases i with
      | zero => simpa [SEntOk] using hE.2
      | succ i =>
        have := ih (m := m) (i := i) hE.2
        simp only [SEntOk, List.eraseIdx_cons_succ, List.map_cons, hE.1] at this ⊢
        rw [this]
theorem SEntOk.push {es : List MapEntry} {m : List (List UInt8 × Value)} {a : List UInt8} {v : Value} {e : MapEntry} (hE : SEntOk es m) (he : (e.key, e.val) = (str a, v)) : SEntOk (es ++ [e]) (m ++ [(a, v)]) := by
  simp only [SEntOk, List.map_append, List.map_cons, List.map_nil, he]
  rw [hE]
theorem SEntOk.at {es : List MapEntry} {m : List (List UInt8 × Value)} {i : Nat} {q : Value} (hE : SEntOk es m) (h : i < m.length) : (es[i]?).map (·.key) = some (str (m.getD i ([], q)).1) := by
  have := congrArg (fun l => (l[i]?).map Prod.fst) hE
  simp only [List.getElem?_map, Option.map_map] at this
  rw [show ((es[i]?).map (·.key)) = (es[i]?).map (Prod.fst ∘ fun e => (e.key, e.val)) from rfl, this]
  simp [List.getD_eq_getElem?_getD, h]
theorem srunUpdate {w : World} {k e : TypeId} {b : Nat} {m : List (List UInt8 × Value)} {es : Array MapEntry} {cl : Nat} {a : List UInt8} {v : Value} (hu : P.underlying t = some (.map k e)) (hk : P.underlying k = some (.string)) (h2 : w.heap[b]? = some (.map es cl)) (h3 : SEntOk es.toList m) :
    ∃ es' cl', (Instr.mapUpdate t (.map (some b)) (str a) v).run P w = .ok () { w with heap := w.heap.setIfInBounds b (.map es' cl') } ∧ SEntOk es'.toList (smput a v m) := by
  have hp := smfind_put (a := a) (v := v) m 0
  cases hm : smfind a m 0 with
  | none =>
    refine ⟨es.push { key := str a, val := v, born := cl }, cl + 1, ?_, ?_⟩
    · simp [Instr.mapUpdate, run_underlying hu, Result.andThen, Go.MapKept.run_getObj_map h2, srunCheckInt hk, srunFindInt hk h3, hm, Go.MapKept.run_setObj_map _ h2]
    · rw [hp.1 hm, Array.toList_push]
      exact h3.push rfl
  | some p =>
    obtain ⟨j, q'⟩ := p
    obtain ⟨_, h4, h5, h6, _⟩ := hp.2 j q' hm
    rw [Nat.sub_zero] at h4 h5 h6
    have h7 := h3.at (q := q') h4
    rw [h5] at h7
    have h8 : ((es[j]?).map (·.key)).getD (str a) = str a := by
      rw [← Array.getElem?_toList, h7]; rfl
    refine ⟨es.modify j fun e => { e with key := str a, val := v }, cl, ?_, ?_⟩
    · simp [Instr.mapUpdate, run_underlying hu, Result.andThen, Go.MapKept.run_getObj_map h2, srunCheckInt hk, srunFindInt hk h3, hm, h8, srunStays, Go.MapKept.run_setObj_map _ h2]
    · rw [h6, Array.toList_modify]
      exact h3.modify fun _ => rfl
theorem srunDelete {w : World} {k e : TypeId} {b : Nat} {m : List (List UInt8 × Value)} {es : Array MapEntry} {cl : Nat} {a : List UInt8} {T2 T3 : TypeId} (hu : P.underlying t = some (.map k e)) (hk : P.underlying k = some (.string)) (h2 : w.heap[b]? = some (.map es cl)) (h3 : SEntOk es.toList m) :
    ∃ es' cl', (Builtin.delete_ #[t, T2] T3 #[.map (some b), str a]).run P w = .ok (.tuple #[]) { w with heap := w.heap.setIfInBounds b (.map es' cl') } ∧ SEntOk es'.toList (smdel a m) := by
  have hp := smfind_put (a := a) (v := undef) m 0
  cases hm : smfind a m 0 with
  | none =>
    refine ⟨es, cl, ?_, ?_⟩
    · simp [Builtin.delete_, run_underlying hu, Result.andThen, Go.MapKept.run_getObj_map h2, srunCheckInt hk, srunFindInt hk h3, hm, Go.MapKept.run_setObj_map _ h2]
    · rw [smfind_none_del m 0 hm]; exact h3
  | some p =>
    obtain ⟨j, q'⟩ := p
    obtain ⟨_, h4, h5, h6, h7⟩ := hp.2 j q' hm
    rw [Nat.sub_zero] at h7
    refine ⟨es.eraseIdxIfInBounds j, cl, ?_, ?_⟩
    · simp [Builtin.delete_, run_underlying hu, Result.andThen, Go.MapKept.run_getObj_map h2, srunCheckInt hk, srunFindInt hk h3, hm, Go.MapKept.run_setObj_map _ h2]
    · rw [h7, Array.toList_eraseIdxIfInBounds]
      exact h3.erase
inductive SUpdM (b : Nat) (m m' : List (List UInt8 × Value)) : List HP → List HP → Prop
  | head {r : List HP} : SUpdM b m m' (.smap b m :: r) (.smap b m' :: r)
  | tail {y : HP} {r r' : List HP} : SUpdM b m m' r r' → SUpdM b m m' (y :: r) (y :: r')
theorem SUpdM.take {b : Nat} {m m' : List (List UInt8 × Value)} {A A' : List HP} (u : SUpdM b m m' A A') : ∃ r, Take (.smap b m) A r ∧ Take (.smap b m') A' r := by
  induction u with
  | head => exact ⟨_, .head, .head⟩
  | tail _ ih => obtain ⟨r, h1, h2⟩ := ih; exact ⟨_, .tail h1, .tail h2⟩
theorem St.updSM {b : Nat} {m m' : List (List UInt8 × Value)} {A A' : List HP} {w : World} {es' : Array MapEntry} {cl' : Nat} (h : St w0 S0 A w) (u : SUpdM b m m' A A') (he : SEntOk es'.toList m') : St w0 S0 A' { w with heap := w.heap.setIfInBounds b (.map es' cl') } := by
  obtain ⟨r, t1, t2⟩ := u.take
  refine h.turn fun S hs => ?_
  obtain ⟨S1, S2, hu, hd, ⟨h1, es, cl, h2, h3⟩, h4⟩ := t1.star hs
  have hb := lt_of_get h2
  refine ⟨S, t2.unstar ⟨S1, S2, hu, hd, ⟨h1, es', cl', by simp [Array.getElem?_setIfInBounds_self_of_lt hb], he⟩, (sepL r).loc h4 fun x hx => ?_⟩, ⟨rfl, rfl, rfl, by simp, fun x _ hx => ?_⟩, fun _ h => .inl h⟩
  · have hne : b ≠ x := fun e => hd x ((h1 x).2 e.symm) hx
    simp [Array.getElem?_setIfInBounds_ne hne]
  · have hne : b ≠ x := fun e => hx ((hu x).2 (.inl ((h1 x).2 e.symm)))
    simp [Array.getElem?_setIfInBounds_ne hne]
theorem WL.makeMapS (hn : Nat.blt d n = true) (kk : ∀ bl, WL P w0 S0 n ops Q rest ((d, .map (some bl)) :: F) (.smap bl [] :: A)) : WL P w0 S0 n ops Q (⟨some d, .makeMap t none, T, pos, af, none⟩ :: rest) F A := by
  refine .step (fun a w ha hst K hK => ?_) rfl
  have hrun : (execOp a.eval ⟨some d, .makeMap t none, T, pos, af, none⟩).run P w = .ok (.value (.map (some w.heap.size))) (w.alloc (.map #[] 0)) := by
    simp [execOp, Instr.makeMap]
  unfold Oper.wp
  rw [hrun]
  exact hK _ _ ((kk _).go _ _ (ha.put (by simpa using hn) _) (hst.new _ fun _ h1 => ⟨fun _ => Iff.rfl, _, _, h1, rfl⟩))
theorem WL.mapUpdateS {k e : TypeId} {b : Nat} {m : List (List UInt8 × Value)} {a : List UInt8} {v : Value} {z : Operand} {A' : List HP} (hx : ev F x = some (.map (some b))) (hy : ev F y = some (str a)) (hv : ev F z = some v) (hu : P.underlying t = some (.map k e)) (hk : P.underlying k = some (.string)) (ht : SUpdM b m (smput a v m) A A') (kk : WL P w0 S0 n ops Q rest F A') :
    WL P w0 S0 n ops Q (⟨none, .mapUpdate t x y z, T, pos, af, none⟩ :: rest) F A := by
  refine .step (fun a' w ha hst K hK => ?_) rfl
  obtain ⟨r, t1, _⟩ := ht.take
  obtain ⟨S, _, es, cl, h2, h3⟩ := hst.take t1
  obtain ⟨es', cl', h4, h5⟩ := srunUpdate (a := a) (v := v) hu hk h2 h3
  have hrun : (execOp a'.eval ⟨none, .mapUpdate t x y z, T, pos, af, none⟩).run P w = .ok .skip { w with heap := w.heap.setIfInBounds b (.map es' cl') } := by
    simp [execOp, ha.eval hx, ha.eval hy, ha.eval hv, h4]
  unfold Oper.wp
  rw [hrun]
  exact hK _ _ (kk.go _ _ ha (hst.updSM ht h5))
theorem WL.insertS {k e : TypeId} {b : Nat} {m : List (List UInt8 × Value)} {a : List UInt8} {v : Value} {z : Operand} {A' : List HP} (hx : ev F x = some (.map (some b))) (hy : ev F y = some (str a)) (hv : ev F z = some v) (hu : P.underlying t = some (.map k e)) (hk : P.underlying k = some (.string)) (ht : SUpdM b m (smput a v m) A A') (kk : WL P w0 S0 n ops Q rest F A') :
    WL P w0 S0 n ops Q (⟨none, .insert t x y z, T, pos, af, none⟩ :: rest) F A := by
  refine .step (fun a' w ha hst K hK => ?_) rfl
  obtain ⟨r, t1, _⟩ := ht.take
  obtain ⟨S, _, es, cl, h2, h3⟩ := hst.take t1
  obtain ⟨es', cl', h4, h5⟩ := srunUpdate (a := a) (v := v) hu hk h2 h3
  have hrun : (execOp a'.eval ⟨none, .insert t x y z, T, pos, af, none⟩).run P w = .ok .skip { w with heap := w.heap.setIfInBounds b (.map es' cl') } := by
    simp [execOp, ha.eval hx, ha.eval hy, ha.eval hv, h4]
  unfold Oper.wp
  rw [hrun]
  exact hK _ _ (kk.go _ _ ha (hst.updSM ht h5))
theorem WL.deleteS {k e T2 : TypeId} {b : Nat} {m : List (List UInt8 × Value)} {a : List UInt8} {A' : List HP} (hx : ev F x = some (.map (some b))) (hy : ev F y = some (str a)) (hu : P.underlying t = some (.map k e)) (hk : P.underlying k = some (.string)) (ht : SUpdM b m (smdel a m) A A') (kk : WL P w0 S0 n ops Q rest F A') :
    WL P w0 S0 n ops Q (⟨none, .call ⟨.builtin .delete, #[x, y], #[t, T2]⟩, T, pos, af, none⟩ :: rest) F A := by
  refine .step (fun a' w ha hst K hK => ?_) rfl
  obtain ⟨r, t1, _⟩ := ht.take
  obtain ⟨S, _, es, cl, h2, h3⟩ := hst.take t1
  obtain ⟨es', cl', h4, h5⟩ := srunDelete (a := a) (T2 := T2) (T3 := T) hu hk h2 h3
  have hrun : (execOp a'.eval ⟨none, .call ⟨.builtin .delete, #[x, y], #[t, T2]⟩, T, pos, af, none⟩).run P w = .ok (.value (.tuple #[])) { w with heap := w.heap.setIfInBounds b (.map es' cl') } := by
    simp [execOp, resolve, invoke, builtin, ha.eval hx, ha.eval hy, h4]
  unfold Oper.wp
  rw [hrun]
  exact hK _ _ (kk.go _ _ ha (hst.updSM ht h5))
end
end Go.BK
