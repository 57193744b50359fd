/- Structs of ints that are compared, and maps whose keys are ints. No program in sight. -/
import Derived.Test.YtakffjjnogpolaaLibT
import Derived.MapKept
namespace Go.BK
open Go.RowKit Go.MapKept

section
variable {P : Program} {w0 : World} {S0 : BSet} {n : Nat} {F : Fr} {A : List HP} {dd : Option Tmp} {T : TypeId} {pos : String} {af : Array Edge} {x y : Operand} {t ty : TypeId} {g : Option (Nat × Bool)} {ops : Array Oper} {rest : List Oper} {Q : Exit → Act → World → Prop} {d : Tmp}
theorem runEqInt2 {w : World} {k k' : IntKind} {a b : Int} (d : Nat) (hu : P.underlying t = some (.int k)) : (Op.equalIn (d + 1) t (.int k' a) (.int k' b)).run P w = .ok (a == b) w := by simp [Op.equalIn, run_underlying hu]
theorem runForFind {α β : Type} {w : World} {body : α → β → Sem (ForInStep β)} {s s' : β} {p : α → Bool} : ∀ (l : List α), (∀ f ∈ l, (body f s).run P w = .ok (if p f = true then .yield s else .done s') w) → (forIn l s body).run P w = .ok (if l.all p = true then s else s') w
  | [], _ => by simp
  | f :: l, h => by
    rw [List.forIn_cons]
    have h1 := h f (by simp)
    cases hp : p f with
    | true =>
      rw [hp, if_pos rfl] at h1
      simp only [Sem.run_bind, h1, Result.andThen]
      rw [runForFind l fun g hg => h g (by simp [hg])]
      simp [hp]
    | false =>
      rw [hp, if_neg (by decide)] at h1
      simp only [Sem.run_bind, h1, Result.andThen]
      simp [hp]
theorem runEqAggI {w : World} {fs : List Field} {xs ys : List Int} (hu : P.underlying t = some (.struct fs.toArray)) (hst : P.stoodInHeld t = false) (hf : ∀ f ∈ fs, f.name ≠ "_" ∧ (∃ k, P.underlying f.type = some (.int k)) ∧ f.offset < xs.length) (hl : ys.length = xs.length) :
    (Op.equal t (.agg (xs.map i64).toArray) (.agg (ys.map i64).toArray)).run P w = .ok (fs.all fun f => xs.getD f.offset 0 == ys.getD f.offset 0) w := by
  have key : ∀ d, (Op.equalIn (d + 2) t (.agg (xs.map i64).toArray) (.agg (ys.map i64).toArray)).run P w = .ok (fs.all fun f => xs.getD f.offset 0 == ys.getD f.offset 0) w := fun d => by
    rw [Op.equalIn]
    simp only [Sem.run_bind, run_underlying hu, Result.andThen]
    have hp : Sem.run P program w = .ok P w := rfl
    simp only [hp, hst, Bool.false_eq_true, ↓reduceIte, List.forIn_toArray, Sem.run_bind]
    rw [runForFind (p := fun f => xs.getD f.offset 0 == ys.getD f.offset 0) (s' := ⟨some false, ()⟩)]
    · by_cases h : (fs.all fun f => xs.getD f.offset 0 == ys.getD f.offset 0) = true
      · rw [if_pos h, h]; rfl
      · rw [if_neg h, show (fs.all fun f => xs.getD f.offset 0 == ys.getD f.offset 0) = false from by simpa using h]; rfl
    · intro f hf'
      obtain ⟨h1, ⟨k, h2⟩, h3⟩ := hf f hf'
      rw [if_pos h1]
      have e1 : (xs.map i64).toArray[f.offset]? = some (i64 (xs.getD f.offset 0)) := by simp [List.getD_eq_getElem?_getD, List.getElem?_eq_getElem h3]
      have e2 : (ys.map i64).toArray[f.offset]? = some (i64 (ys.getD f.offset 0)) := by simp [List.getD_eq_getElem?_getD, List.getElem?_eq_getElem (show f.offset < ys.length by omega)]
      simp only [Sem.run_bind, runPart h2 e1, runPart h2 e2, Result.andThen]
      rw [show Sem.run P (Op.equalIn (d + 1) f.type (i64 (xs.getD f.offset 0)) (i64 (ys.getD f.offset 0))) w = _ from runEqInt2 d h2]
      cases (xs.getD f.offset 0 == ys.getD f.offset 0) <;> rfl
  exact key 9998
theorem intsB_fs {offs : List Nat} (hB : intsB P t = some offs) : ∃ fs : List Field, P.underlying t = some (.struct fs.toArray) ∧ P.stoodInHeld t = false ∧ P.eqGuardType P.depth t = false ∧ offs = fs.map (·.offset) ∧ ∀ f ∈ fs, f.name ≠ "_" ∧ ∃ k, P.underlying f.type = some (.int k) := by
  unfold intsB at hB
  cases hu : P.underlying t with
  | none => simp [hu] at hB
  | some d =>
    cases d with
    | struct fs =>
      rw [hu] at hB
      dsimp only at hB
      cases hc : (!P.stoodInHeld t && !P.eqGuardType P.depth t && fs.toList.all (fun f => f.name != "_" && isIntT (P.underlying f.type))) with
      | false => rw [hc] at hB; exact absurd hB (by simp)
      | true =>
        rw [hc, cond_true, Option.some.injEq] at hB
        rw [Bool.and_eq_true, Bool.and_eq_true] at hc
        obtain ⟨⟨h1, h2⟩, h3⟩ := hc
        refine ⟨fs.toList, by simp, by simpa using h1, by simpa using h2, hB.symm, fun f hf => ?_⟩
        have h4 := List.all_eq_true.1 h3 f hf
        rw [Bool.and_eq_true] at h4
        refine ⟨by simpa using h4.1, ?_⟩
        revert h4
        cases P.underlying f.type with
        | none => intro h; exact absurd h.2 (by simp [isIntT])
        | some d => cases d <;> intro h <;> first | exact ⟨_, rfl⟩ | exact absurd h.2 (by simp [isIntT])
    | _ => simp [hu] at hB
theorem all_range : ∀ (xs ys : List Int), ys.length = xs.length → ((List.range xs.length).all fun o => xs.getD o 0 == ys.getD o 0) = decide (xs = ys)
  | xs, ys, hl => by
    by_cases h : xs = ys
    · subst h; simp
    · rw [decide_eq_false h, Bool.eq_false_iff]
      intro k
      apply h
      apply List.ext_getElem hl.symm
      intro i h1 h2
      have := List.all_eq_true.1 k i (List.mem_range.2 h1)
      simpa [List.getD_eq_getElem?_getD, h1, h2] using this
theorem runEqI {w : World} {xs ys : List Int} (hB : intsB P t = some (List.range xs.length)) (hl : ys.length = xs.length) :
    P.eqGuardType P.depth t = false ∧ (Op.equal t (.agg (xs.map i64).toArray) (.agg (ys.map i64).toArray)).run P w = .ok (decide (xs = ys)) w := by
  obtain ⟨fs, h1, h2, h3, h4, h5⟩ := intsB_fs hB
  refine ⟨h3, ?_⟩
  rw [runEqAggI h1 h2 (fun f hf => ⟨(h5 f hf).1, (h5 f hf).2, by
    have : f.offset ∈ List.range xs.length := by rw [h4]; exact List.mem_map.2 ⟨f, hf, rfl⟩
    exact List.mem_range.1 this⟩) hl, ← all_range xs ys hl, h4, List.all_map]
  rfl
theorem EvW.eqAggI {xs ys : List Int} (hx : ev F x = some (.agg (xs.map i64).toArray)) (hy : ev F y = some (.agg (ys.map i64).toArray)) (hB : intsB P t = some (List.range xs.length)) (hl : ys.length = xs.length) : EvW P w0 S0 n F A ⟨dd, .binOp .eql t x y ty, T, pos, af, g⟩ (.bool (decide (xs = ys))) :=
  .pure fun a' w ha _ => by
    obtain ⟨h1, h2⟩ := runEqI (w := w) hB hl
    simp [execOp, ha.eval hx, ha.eval hy, eqGuard, h1, binOp, h2]
theorem EvW.neAggI {xs ys : List Int} (hx : ev F x = some (.agg (xs.map i64).toArray)) (hy : ev F y = some (.agg (ys.map i64).toArray)) (hB : intsB P t = some (List.range xs.length)) (hl : ys.length = xs.length) : EvW P w0 S0 n F A ⟨dd, .binOp .neq t x y ty, T, pos, af, g⟩ (.bool (decide (xs ≠ ys))) :=
  .pure fun a' w ha _ => by
    obtain ⟨h1, h2⟩ := runEqI (w := w) hB hl
    simp [execOp, ha.eval hx, ha.eval hy, eqGuard, h1, binOp, h2]

/-! Maps whose keys are ints -/
def mget (a : Int) : List (Int × Value) → Option Value
  | [] => none
  | p :: m => if a = p.1 then some p.2 else mget a m
def mput (a : Int) (v : Value) : List (Int × Value) → List (Int × Value)
  | [] => [(a, v)]
  | p :: m => if a = p.1 then (a, v) :: m else p :: mput a v m
def mdel (a : Int) : List (Int × Value) → List (Int × Value)
  | [] => []
  | p :: m => if a = p.1 then m else p :: mdel a m
theorem mget_put (a b : Int) (v : Value) : ∀ m, mget b (mput a v m) = if b = a then some v else mget b m
  | [] => by
    unfold mput mget
    by_cases h : b = a
    · rw [if_pos h, if_pos h]
    · rw [if_neg h, if_neg h]; rfl
  | p :: m => by
    unfold mput
    by_cases h : a = p.1
    · rw [if_pos h]
      by_cases h2 : b = a
      · simp only [mget, h2, if_pos]
      · simp only [mget, if_neg h2, if_neg (show ¬ b = p.1 from fun e => h2 (e.trans h.symm))]
    · rw [if_neg h]
      by_cases h3 : b = p.1
      · have h4 : ¬ b = a := fun e => h (e.symm.trans h3)
        simp only [mget, if_pos h3, if_neg h4]
      · simp only [mget, if_neg h3]
        exact mget_put a b v m
def mdist : List (Int × Value) → Prop
  | [] => True
  | p :: m => mget p.1 m = none ∧ mdist m
theorem mdist_put (a : Int) (v : Value) : ∀ m, mdist m → mdist (mput a v m)
  | [], _ => ⟨rfl, trivial⟩
  | p :: m, h => by
    unfold mput
    by_cases k : a = p.1
    · rw [if_pos k, k]; exact h
    · rw [if_neg k]
      refine ⟨?_, mdist_put a v m h.2⟩
      rw [mget_put, if_neg (Ne.symm k)]; exact h.1
theorem mget_del (a b : Int) : ∀ m, mdist m → mget b (mdel a m) = if b = a then none else mget b m
  | [], _ => by simp [mget, mdel]
  | p :: m, h => by
    unfold mdel
    by_cases k : a = p.1
    · rw [if_pos k]
      by_cases h2 : b = a
      · rw [if_pos h2, h2, k]; exact h.1
      · rw [if_neg h2]
        simp only [mget, if_neg (show ¬ b = p.1 from fun e => h2 (e.trans k.symm))]
    · rw [if_neg k]
      by_cases h3 : b = p.1
      · have h4 : ¬ b = a := fun e => k (e.symm.trans h3)
        simp only [mget, if_pos h3, if_neg h4]
      · simp only [mget, if_neg h3]
        exact mget_del a b m h.2
theorem mdist_del (a : Int) : ∀ m, mdist m → mdist (mdel a m)
  | [], _ => trivial
  | p :: m, h => by
    unfold mdel
    by_cases k : a = p.1
    · rw [if_pos k]; exact h.2
    · rw [if_neg k]
      refine ⟨?_, mdist_del a m h.2⟩
      rw [mget_del _ _ _ h.2, if_neg (Ne.symm k)]; exact h.1
def EntOk (es : List MapEntry) (m : List (Int × Value)) : Prop := es.map (fun e => (e.key, e.val)) = m.map fun p => (i64 p.1, p.2)
/-- Block b is a map of ints to values: these entries, in the order in which they came. -/
def HP.imap (b : Nat) (m : List (Int × Value)) : HP where
  sat S w := (∀ x, S x ↔ x = b) ∧ ∃ es clock, w.heap[b]? = some (.map es clock) ∧ EntOk es.toList m
  loc := fun ⟨h1, es, cl, h2, h3⟩ hk => ⟨h1, es, cl, by rw [hk b ((h1 b).2 rfl)]; exact h2, h3⟩
  bnd := fun {_ _ x} ⟨h1, _, _, h2, _⟩ hb => by rw [(h1 x).1 hb]; exact lt_of_get h2
def mfind (a : Int) : List (Int × Value) → Nat → Option (Nat × Value)
  | [], _ => none
  | p :: m, i => if a = p.1 then some (i, p.2) else mfind a m (i + 1)
theorem findNow_int {k : IntKind} {a : Int} : ∀ (es : List MapEntry) (m : List (Int × Value)) (i : Nat), EntOk es m → Instr.findNow (.int k) (i64 a) es i = some (mfind a m i)
  | [], [], _, _ => rfl
  | [], _ :: _, _, h => by simp [EntOk] at h
  | _ :: _, [], _, h => by simp [EntOk] at h
  | e :: es, p :: m, i, h => by
    simp only [EntOk, List.map_cons, List.cons.injEq, Prod.mk.injEq] at h
    unfold Instr.findNow mfind
    rw [h.1.1, show Instr.sameNow (.int k) (i64 a) (i64 p.1) = some (a == p.1) from by simp [Instr.sameNow]]
    by_cases hp : a = p.1
    · rw [if_pos hp, show (a == p.1) = true from by simpa using hp, h.1.2]
    · rw [if_neg hp, show (a == p.1) = false from by simpa using hp]
      exact findNow_int es m (i + 1) h.2
theorem mfind_get (a : Int) : ∀ (m : List (Int × Value)) (i : Nat), (mfind a m i).map (·.2) = mget a m
  | [], _ => rfl
  | p :: m, i => by
    unfold mfind mget
    by_cases h : a = p.1
    · rw [if_pos h, if_pos h]; rfl
    · rw [if_neg h, if_neg h]; exact mfind_get a m (i + 1)
theorem mfind_put {a : Int} {v : Value} : ∀ (m : List (Int × Value)) (i : Nat), (mfind a m i = none → mput a v m = m ++ [(a, v)]) ∧ ∀ j q, mfind a m i = some (j, q) → i ≤ j ∧ j - i < m.length ∧ (m.getD (j - i) (0, q)).1 = a ∧ mput a v m = m.set (j - i) (a, v) ∧ mdel a m = m.eraseIdx (j - i)
  | [], i => ⟨fun _ => rfl, fun j q h => by simp [mfind] at h⟩
  | p :: m, i => by
    have ih := mfind_put (a := a) (v := v) m (i + 1)
    unfold mfind mput mdel
    by_cases hp : a = p.1
    · rw [if_pos hp, if_pos hp, if_pos hp]
      refine ⟨fun h => by simp at h, fun j q h => ?_⟩
      simp only [Option.some.injEq, Prod.mk.injEq] at h
      obtain ⟨rfl, rfl⟩ := h
      refine ⟨Nat.le_refl _, by simp, ?_, by simp, by simp⟩
      simp [hp]
    · rw [if_neg hp, if_neg hp, if_neg hp]
      refine ⟨fun h => by rw [ih.1 h]; rfl, fun j q h => ?_⟩
      obtain ⟨h1, h2, h3, h4, h5⟩ := ih.2 j q h
      have e : j - i = (j - (i + 1)) + 1 := by omega
      refine ⟨by omega, by simp only [List.length_cons]; omega, ?_, ?_, ?_⟩
      · rw [e]; simpa using h3
      · rw [e, h4]; rfl
      · rw [e, h5]; rfl
theorem mfind_none_del {a : Int} : ∀ (m : List (Int × Value)) (i : Nat), mfind a m i = none → mdel a m = m
  | [], _, _ => rfl
  | p :: m, i, h => by
    unfold mfind at h
    unfold mdel
    by_cases hp : a = p.1
    · rw [if_pos hp] at h; simp at h
    · rw [if_neg hp] at h ⊢
      rw [mfind_none_del m (i + 1) h]
theorem runCheckInt {w : World} {e : Bool} {q : IntKind} {k : TypeId} {a : Int} (hk : P.underlying k = some (.int q)) : (Instr.checkKey e 10000 k (i64 a)).run P w = .ok () w := by
  unfold Instr.checkKey
  simp only [Sem.run_bind, run_underlying hk, Result.andThen, Sem.run_pure]
theorem runFindInt {w : World} {q : IntKind} {k : TypeId} {a : Int} {es : List MapEntry} {m : List (Int × Value)} (hk : P.underlying k = some (.int q)) (hE : EntOk es m) : (Instr.findKey k (i64 a) es).run P w = .ok (mfind a m 0) w := by
  simp [Instr.findKey, run_underlying hk, Result.andThen, findNow_int (k := q) (a := a) es m 0 hE]
theorem sameBits_int (a : Int) : ∀ n, Instr.sameBits n (i64 a) (i64 a) = true
  | 0 => by simp [Instr.sameBits]
  | n + 1 => by simp [Instr.sameBits]
theorem runStays {w : World} {a : Int} : (Instr.keyThatStays (i64 a) (i64 a)).run P w = .ok (i64 a) w := by
  unfold Instr.keyThatStays
  rw [sameBits_int, if_pos rfl]
  rfl
theorem EvW.lookup {k e : TypeId} {q : IntKind} {b : Nat} {m : List (Int × Value)} {a : Int} {z : Value} {r : List HP} (hx : ev F x = some (.map (some b))) (hy : ev F y = some (i64 a)) (hu : P.underlying t = some (.map k e)) (hk : P.underlying k = some (.int q)) (hz : zvB P e = some z) (ht : Take (.imap b m) A r) :
    EvW P w0 S0 n F A ⟨dd, .lookup t x y false, T, pos, af, g⟩ ((mget a m).getD z) :=
  .pure fun a' w ha hst => by
    obtain ⟨S, _, es, cl, h2, h3⟩ := hst.take ht
    have hz' := runZv (w := w) hz
    have hf := mfind_get a m 0
    simp only [execOp, ha.eval hx, ha.eval hy, Instr.lookup, Sem.run_bind, run_underlying hu, Result.andThen, Go.MapKept.run_getObj_map h2, Sem.run_pure, runCheckInt hk, runFindInt hk h3]
    cases hm : mfind a m 0 with
    | none => rw [hm] at hf; simp [← hf, hz', Result.andThen]
    | some p => rw [hm] at hf; simp [← hf]
theorem EvW.lookupOk {k e : TypeId} {q : IntKind} {b : Nat} {m : List (Int × Value)} {a : Int} {z : Value} {r : List HP} (hx : ev F x = some (.map (some b))) (hy : ev F y = some (i64 a)) (hu : P.underlying t = some (.map k e)) (hk : P.underlying k = some (.int q)) (hz : zvB P e = some z) (ht : Take (.imap b m) A r) :
    EvW P w0 S0 n F A ⟨dd, .lookup t x y true, T, pos, af, g⟩ (.tuple #[(mget a m).getD z, .bool (mget a m).isSome]) :=
  .pure fun a' w ha hst => by
    obtain ⟨S, _, es, cl, h2, h3⟩ := hst.take ht
    have hz' := runZv (w := w) hz
    have hf := mfind_get a m 0
    simp only [execOp, ha.eval hx, ha.eval hy, Instr.lookup, Sem.run_bind, run_underlying hu, Result.andThen, Go.MapKept.run_getObj_map h2, Sem.run_pure, runCheckInt hk, runFindInt hk h3]
    cases hm : mfind a m 0 with
    | none => rw [hm] at hf; simp [← hf, hz', Result.andThen]
    | some p => rw [hm] at hf; simp [← hf]
theorem EntOk.modify {es : List MapEntry} {m : List (Int × Value)} {a : Int} {v : Value} {i : Nat} {f : MapEntry → MapEntry} (hE : EntOk es m) (hf : ∀ e, ((f e).key, (f e).val) = (i64 a, v)) : EntOk (es.modify i f) (m.set i (a, v)) := by
  induction es generalizing m i with
  | nil =>
    cases m with
    | nil => cases i <;> simp [EntOk]
    | cons p m => simp [EntOk] at hE
  | cons e es ih =>
    cases m with
    | nil => simp [EntOk] at hE
    | cons p m =>
      simp only [EntOk, List.map_cons, List.cons.injEq] at hE
      cases i with
      | zero => simp only [EntOk, List.modify_zero_cons, List.set_cons_zero, List.map_cons, hf, hE.2]
      | succ i =>
        have := ih (m := m) (i := i) hE.2
        simp only [EntOk, List.modify_succ_cons, List.set_cons_succ, List.map_cons, hE.1] at this ⊢
        rw [this]
theorem EntOk.erase {es : List MapEntry} {m : List (Int × Value)} {i : Nat} (hE : EntOk es m) : EntOk (es.eraseIdx i) (m.eraseIdx i) := by
  induction es generalizing m i with
  | nil =>
    cases m with
    | nil => cases i <;> simp [EntOk]
    | cons p m => simp [EntOk] at hE
  | cons e es ih =>
    cases m with
    | nil => simp [EntOk] at hE
    | cons p m =>
      simp only [EntOk, List.map_cons, List.cons.injEq] at hE
      cases i with
      | zero => simpa [EntOk] using hE.2
      | succ i =>
        have := ih (m := m) (i := i) hE.2
        simp only [EntOk, List.eraseIdx_cons_succ, List.map_cons, hE.1] at this ⊢
        rw [this]
theorem EntOk.push {es : List MapEntry} {m : List (Int × Value)} {a : Int} {v : Value} {e : MapEntry} (hE : EntOk es m) (he : (e.key, e.val) = (i64 a, v)) : EntOk (es ++ [e]) (m ++ [(a, v)]) := by
  simp only [EntOk, List.map_append, List.map_cons, List.map_nil, he]
  rw [hE]
theorem EntOk.at {es : List MapEntry} {m : List (Int × Value)} {i : Nat} {q : Value} (hE : EntOk es m) (h : i < m.length) : (es[i]?).map (·.key) = some (i64 (m.getD i (0, q)).1) := by
  have := congrArg (fun l => (l[i]?).map Prod.fst) hE
  simp only [List.getElem?_map, Option.map_map] at this
  rw [show ((es[i]?).map (·.key)) = (es[i]?).map (Prod.fst ∘ fun e => (e.key, e.val)) from rfl, this]
  simp [List.getD_eq_getElem?_getD, h]
theorem runUpdate {w : World} {k e : TypeId} {q : IntKind} {b : Nat} {m : List (Int × Value)} {es : Array MapEntry} {cl : Nat} {a : Int} {v : Value} (hu : P.underlying t = some (.map k e)) (hk : P.underlying k = some (.int q)) (h2 : w.heap[b]? = some (.map es cl)) (h3 : EntOk es.toList m) :
    ∃ es' cl', (Instr.mapUpdate t (.map (some b)) (i64 a) v).run P w = .ok () { w with heap := w.heap.setIfInBounds b (.map es' cl') } ∧ EntOk es'.toList (mput a v m) := by
  have hp := mfind_put (a := a) (v := v) m 0
  cases hm : mfind a m 0 with
  | none =>
    refine ⟨es.push { key := i64 a, val := v, born := cl }, cl + 1, ?_, ?_⟩
    · simp [Instr.mapUpdate, run_underlying hu, Result.andThen, Go.MapKept.run_getObj_map h2, runCheckInt hk, runFindInt hk h3, hm, Go.MapKept.run_setObj_map _ h2]
    · rw [hp.1 hm, Array.toList_push]
      exact h3.push rfl
  | some p =>
    obtain ⟨j, q'⟩ := p
    obtain ⟨_, h4, h5, h6, _⟩ := hp.2 j q' hm
    rw [Nat.sub_zero] at h4 h5 h6
    have h7 := h3.at (q := q') h4
    rw [h5] at h7
    have h8 : ((es[j]?).map (·.key)).getD (i64 a) = i64 a := by
      rw [← Array.getElem?_toList, h7]; rfl
    refine ⟨es.modify j fun e => { e with key := i64 a, val := v }, cl, ?_, ?_⟩
    · simp [Instr.mapUpdate, run_underlying hu, Result.andThen, Go.MapKept.run_getObj_map h2, runCheckInt hk, runFindInt hk h3, hm, h8, runStays, Go.MapKept.run_setObj_map _ h2]
    · rw [h6, Array.toList_modify]
      exact h3.modify fun _ => rfl
theorem runDelete {w : World} {k e : TypeId} {q : IntKind} {b : Nat} {m : List (Int × Value)} {es : Array MapEntry} {cl : Nat} {a : Int} {T2 T3 : TypeId} (hu : P.underlying t = some (.map k e)) (hk : P.underlying k = some (.int q)) (h2 : w.heap[b]? = some (.map es cl)) (h3 : EntOk es.toList m) :
    ∃ es' cl', (Builtin.delete_ #[t, T2] T3 #[.map (some b), i64 a]).run P w = .ok (.tuple #[]) { w with heap := w.heap.setIfInBounds b (.map es' cl') } ∧ EntOk es'.toList (mdel a m) := by
  have hp := mfind_put (a := a) (v := undef) m 0
  cases hm : mfind a m 0 with
  | none =>
    refine ⟨es, cl, ?_, ?_⟩
    · simp [Builtin.delete_, run_underlying hu, Result.andThen, Go.MapKept.run_getObj_map h2, runCheckInt hk, runFindInt hk h3, hm, Go.MapKept.run_setObj_map _ h2]
    · rw [mfind_none_del m 0 hm]; exact h3
  | some p =>
    obtain ⟨j, q'⟩ := p
    obtain ⟨_, h4, h5, h6, h7⟩ := hp.2 j q' hm
    rw [Nat.sub_zero] at h7
    refine ⟨es.eraseIdxIfInBounds j, cl, ?_, ?_⟩
    · simp [Builtin.delete_, run_underlying hu, Result.andThen, Go.MapKept.run_getObj_map h2, runCheckInt hk, runFindInt hk h3, hm, Go.MapKept.run_setObj_map _ h2]
    · rw [h7, Array.toList_eraseIdxIfInBounds]
      exact h3.erase
inductive UpdM (b : Nat) (m m' : List (Int × Value)) : List HP → List HP → Prop
  | head {r : List HP} : UpdM b m m' (.imap b m :: r) (.imap b m' :: r)
  | tail {y : HP} {r r' : List HP} : UpdM b m m' r r' → UpdM b m m' (y :: r) (y :: r')
theorem UpdM.take {b : Nat} {m m' : List (Int × Value)} {A A' : List HP} (u : UpdM b m m' A A') : ∃ r, Take (.imap b m) A r ∧ Take (.imap b m') A' r := by
  induction u with
  | head => exact ⟨_, .head, .head⟩
  | tail _ ih => obtain ⟨r, h1, h2⟩ := ih; exact ⟨_, .tail h1, .tail h2⟩
theorem St.updM {b : Nat} {m m' : List (Int × Value)} {A A' : List HP} {w : World} {es' : Array MapEntry} {cl' : Nat} (h : St w0 S0 A w) (u : UpdM b m m' A A') (he : EntOk es'.toList m') : St w0 S0 A' { w with heap := w.heap.setIfInBounds b (.map es' cl') } := by
  obtain ⟨r, t1, t2⟩ := u.take
  refine h.turn fun S hs => ?_
  obtain ⟨S1, S2, hu, hd, ⟨h1, es, cl, h2, h3⟩, h4⟩ := t1.star hs
  have hb := lt_of_get h2
  refine ⟨S, t2.unstar ⟨S1, S2, hu, hd, ⟨h1, es', cl', by simp [Array.getElem?_setIfInBounds_self_of_lt hb], he⟩, (sepL r).loc h4 fun x hx => ?_⟩, ⟨rfl, rfl, rfl, by simp, fun x _ hx => ?_⟩, fun _ h => .inl h⟩
  · have hne : b ≠ x := fun e => hd x ((h1 x).2 e.symm) hx
    simp [Array.getElem?_setIfInBounds_ne hne]
  · have hne : b ≠ x := fun e => hx ((hu x).2 (.inl ((h1 x).2 e.symm)))
    simp [Array.getElem?_setIfInBounds_ne hne]
theorem WL.makeMap (hn : Nat.blt d n = true) (kk : ∀ bl, WL P w0 S0 n ops Q rest ((d, .map (some bl)) :: F) (.imap bl [] :: A)) : WL P w0 S0 n ops Q (⟨some d, .makeMap t none, T, pos, af, none⟩ :: rest) F A := by
  refine .step (fun a w ha hst K hK => ?_) rfl
  have hrun : (execOp a.eval ⟨some d, .makeMap t none, T, pos, af, none⟩).run P w = .ok (.value (.map (some w.heap.size))) (w.alloc (.map #[] 0)) := by
    simp [execOp, Instr.makeMap]
  unfold Oper.wp
  rw [hrun]
  exact hK _ _ ((kk _).go _ _ (ha.put (by simpa using hn) _) (hst.new _ fun _ h1 => ⟨fun _ => Iff.rfl, _, _, h1, rfl⟩))
theorem WL.mapUpdate {k e : TypeId} {q : IntKind} {b : Nat} {m : List (Int × Value)} {a : Int} {v : Value} {z : Operand} {A' : List HP} (hx : ev F x = some (.map (some b))) (hy : ev F y = some (i64 a)) (hv : ev F z = some v) (hu : P.underlying t = some (.map k e)) (hk : P.underlying k = some (.int q)) (ht : UpdM b m (mput a v m) A A') (kk : WL P w0 S0 n ops Q rest F A') :
    WL P w0 S0 n ops Q (⟨none, .mapUpdate t x y z, T, pos, af, none⟩ :: rest) F A := by
  refine .step (fun a' w ha hst K hK => ?_) rfl
  obtain ⟨r, t1, _⟩ := ht.take
  obtain ⟨S, _, es, cl, h2, h3⟩ := hst.take t1
  obtain ⟨es', cl', h4, h5⟩ := runUpdate (a := a) (v := v) hu hk h2 h3
  have hrun : (execOp a'.eval ⟨none, .mapUpdate t x y z, T, pos, af, none⟩).run P w = .ok .skip { w with heap := w.heap.setIfInBounds b (.map es' cl') } := by
    simp [execOp, ha.eval hx, ha.eval hy, ha.eval hv, h4]
  unfold Oper.wp
  rw [hrun]
  exact hK _ _ (kk.go _ _ ha (hst.updM ht h5))
theorem WL.insert {k e : TypeId} {q : IntKind} {b : Nat} {m : List (Int × Value)} {a : Int} {v : Value} {z : Operand} {A' : List HP} (hx : ev F x = some (.map (some b))) (hy : ev F y = some (i64 a)) (hv : ev F z = some v) (hu : P.underlying t = some (.map k e)) (hk : P.underlying k = some (.int q)) (ht : UpdM b m (mput a v m) A A') (kk : WL P w0 S0 n ops Q rest F A') :
    WL P w0 S0 n ops Q (⟨none, .insert t x y z, T, pos, af, none⟩ :: rest) F A := by
  refine .step (fun a' w ha hst K hK => ?_) rfl
  obtain ⟨r, t1, _⟩ := ht.take
  obtain ⟨S, _, es, cl, h2, h3⟩ := hst.take t1
  obtain ⟨es', cl', h4, h5⟩ := runUpdate (a := a) (v := v) hu hk h2 h3
  have hrun : (execOp a'.eval ⟨none, .insert t x y z, T, pos, af, none⟩).run P w = .ok .skip { w with heap := w.heap.setIfInBounds b (.map es' cl') } := by
    simp [execOp, ha.eval hx, ha.eval hy, ha.eval hv, h4]
  unfold Oper.wp
  rw [hrun]
  exact hK _ _ (kk.go _ _ ha (hst.updM ht h5))
theorem WL.delete {k e T2 : TypeId} {q : IntKind} {b : Nat} {m : List (Int × Value)} {a : Int} {A' : List HP} (hx : ev F x = some (.map (some b))) (hy : ev F y = some (i64 a)) (hu : P.underlying t = some (.map k e)) (hk : P.underlying k = some (.int q)) (ht : UpdM b m (mdel a m) A A') (kk : WL P w0 S0 n ops Q rest F A') :
    WL P w0 S0 n ops Q (⟨none, .call ⟨.builtin .delete, #[x, y], #[t, T2]⟩, T, pos, af, none⟩ :: rest) F A := by
  refine .step (fun a' w ha hst K hK => ?_) rfl
  obtain ⟨r, t1, _⟩ := ht.take
  obtain ⟨S, _, es, cl, h2, h3⟩ := hst.take t1
  obtain ⟨es', cl', h4, h5⟩ := runDelete (a := a) (T2 := T2) (T3 := T) hu hk h2 h3
  have hrun : (execOp a'.eval ⟨none, .call ⟨.builtin .delete, #[x, y], #[t, T2]⟩, T, pos, af, none⟩).run P w = .ok (.value (.tuple #[])) { w with heap := w.heap.setIfInBounds b (.map es' cl') } := by
    simp [execOp, resolve, invoke, builtin, ha.eval hx, ha.eval hy, h4]
  unfold Oper.wp
  rw [hrun]
  exact hK _ _ (kk.go _ _ ha (hst.updM ht h5))
/-- A cell of an element of an own list of things. -/
theorem EvW.ldFldOwn {α : Type} {xs : List α} {f : α → List Value} {i off sz len : Nat} {q v : Value} {ee : TypeId} {r : List HP} (hx : ev F x = some (elemP sz v i off)) (hs : scalB P t = true) (ht : Take (.own ee sz v len (xs.flatMap f)) A r) (hI : Inhabited α) (hf : ∀ a, (f a).length = sz) (hi : i < xs.length) (hq : getL (f (xs.getD i default)) off = some q) : EvW P w0 S0 n F A ⟨dd, .load t x, T, pos, af, g⟩ q :=
  .ldOwn hx hs ht (by
    have h := flat_get (z := default) hf hi
    rw [getL_eq] at hq
    have hlt : off < sz := by rw [← hf (xs.getD i default)]; exact (List.getElem?_eq_some_iff.1 hq).1
    rw [← h, List.getElem?_take_of_lt hlt, List.getElem?_drop] at hq
    exact hq)
theorem over_flat {α : Type} {f : α → List Value} {sz : Nat} {ys : List Value} {off : Nat} (hf : ∀ a, (f a).length = sz) {z y : α} : ∀ (xs : List α) (i : Nat), i < xs.length → f y = over (f (xs.getD i z)) off ys → off + ys.length ≤ sz → over (xs.flatMap f) (i * sz + off) ys = (xs.set i y).flatMap f
  | [], i, h, _, _ => absurd h (Nat.not_lt_zero i)
  | x :: xs, 0, _, hy, hl => by
    have hx := hf x
    simp only [List.getD_cons_zero] at hy
    simp only [List.flatMap_cons, List.set_cons_zero, hy, Nat.zero_mul, Nat.zero_add]
    unfold over
    rw [List.take_append_of_le_length (by omega), List.drop_append_of_le_length (by omega)]
    simp
  | x :: xs, i + 1, h, hy, hl => by
    have hx := hf x
    simp only [List.getD_cons_succ] at hy
    have ih := over_flat hf xs i (by simpa using h) hy hl
    simp only [List.flatMap_cons, List.set_cons_succ, ← ih]
    unfold over
    have e1 : ((i + 1) * sz + off) = (f x).length + (i * sz + off) := by rw [hx, Nat.succ_mul]; omega
    rw [e1, List.take_append, List.drop_append]
    simp only [Nat.add_sub_cancel_left, List.append_assoc, Nat.add_assoc]
    rw [List.take_of_length_le (by omega), List.drop_of_length_le (by omega)]
    simp [Nat.add_sub_cancel_left]
/-- The store of a part of an element. -/
theorem WL.stFld {α : Type} {xs : List α} {f : α → List Value} {i off sz len : Nat} {u v : Value} {ys : List Value} {ee : TypeId} {r : List HP} {A' : List HP} (yy : α) (hx : ev F x = some (elemP sz v i off)) (hy : ev F y = some u) (hv : u.cells = ys.toArray) (hz : szB P t = some ys.length) (h1 : ys.all (·.oneCell') = true) (hpos : Nat.ble 1 ys.length = true) (ht : Take (.own ee sz v len (xs.flatMap f)) A r) [Inhabited α] (hf : ∀ a, (f a).length = sz) (hi : i < xs.length) (hyy : f yy = over (f (xs.getD i default)) off ys) (hle : Nat.ble (off + ys.length) sz = true)
    (ht' : Take (.own ee sz v len ((xs.set i yy).flatMap f)) A' r) (kk : WL P w0 S0 n ops Q rest F A') : WL P w0 S0 n ops Q (⟨none, .store t x y, T, pos, af, none⟩ :: rest) F A := by
  have hle' := Nat.le_of_ble_eq_true hle
  refine .stOwn hx hy hv hz h1 hpos ht ?_ (by rw [over_flat hf xs i hi hyy hle']; exact ht') kk
  have hlen : (xs.flatMap f).length = xs.length * sz := by
    clear hyy ht ht' hi
    induction xs with
    | nil => simp
    | cons x xs ih => rw [List.flatMap_cons, List.length_append, hf, ih, List.length_cons, Nat.succ_mul, Nat.add_comm]
  rw [hlen]
  have : (i + 1) * sz ≤ xs.length * sz := Nat.mul_le_mul_right _ hi
  rw [Nat.succ_mul] at this
  omega
theorem makeCells (zs : List Value) (c : Nat) : (Array.range (c * zs.length)).map (fun i => zs.toArray[i % zs.toArray.size]!) = ((List.replicate c zs).flatten).toArray := by
  apply Array.ext'
  simp only [Array.toList_map, Array.toList_range, List.size_toArray]
  induction c with
  | zero => simp
  | succ c ih =>
    rw [Nat.succ_mul, List.range_add, List.map_append, ih, List.replicate_succ']
    simp only [List.flatten_append, List.flatten_cons, List.flatten_nil, List.append_nil, List.map_map]
    congr 1
    apply List.ext_getElem
    · simp
    · intro i h1 h2
      have h3 : i < zs.length := h2
      simp only [List.getElem_map, List.getElem_range, Function.comp]
      rw [Nat.mul_add_mod_self_right, Nat.mod_eq_of_lt h3]
      simp [h3]
theorem WL.makeN {bts : Nat} {z : Value} {zs : List Value} {k1 k2 : IntKind} {a : Int} {e : TypeId} (hn : Nat.blt d n = true) (hx : ev F x = some (.int k1 a)) (hy : ev F y = some (.int k2 a)) (hu : P.underlying t = some (.slice e)) (hz : szB P e = some zs.length) (hb : byB P e = some bts) (hzv : zvB P e = some z) (hz1 : z.cells = zs.toArray) (hpos : Nat.ble 1 zs.length = true)
    (h0 : 1 ≤ a) (hm : a ≤ 140737488355328) (hroom : a.toNat * bts ≤ 140737488355328) (kk : ∀ v', WL P w0 S0 n ops Q rest ((d, v') :: F) (.own e zs.length v' a.toNat (List.replicate a.toNat zs).flatten :: A)) :
    WL P w0 S0 n ops Q (⟨some d, .makeSlice t x y, T, pos, af, none⟩ :: rest) F A := by
  refine .step (fun act w ha hst K hK => ?_) rfl
  obtain ⟨c, rfl⟩ := Int.eq_ofNat_of_zero_le (show 0 ≤ a by omega)
  simp only [Int.toNat_natCast] at hroom kk
  obtain ⟨inf, hinf, hby⟩ : ∃ inf, P.info? e = some inf ∧ inf.bytes = bts := by
    unfold byB at hb
    cases h : P.info? e with
    | none => simp [h] at hb
    | some i => simp [h] at hb; exact ⟨i, rfl, hb⟩
  subst hby
  have hwr : IntKind.i64.wrap (c : Int) = c := wrap_in _ (i64_in (by omega) (by omega))
  have hti : ∀ w' : World, (typeInfo e).run P w' = .ok inf w' := fun w' => run_typeInfo w' hinf
  have hroom' : ((inf.bytes : Int) * c) ≤ 140737488355328 := by
    have : ((c * inf.bytes : Nat) : Int) ≤ ((140737488355328 : Nat) : Int) := Int.ofNat_le.2 hroom
    rw [Int.mul_comm]; rw [Int.natCast_mul] at this; exact this
  have hnl : ¬ ((c : Int) < 0) := by omega
  have hbig : ¬ ((281474976710656 : Int) < (inf.bytes : Int) * c) := by omega
  have hpos' := Nat.le_of_ble_eq_true hpos
  have hc0 : ¬ c = 0 := by omega
  have hn0 : ¬ c * zs.length = 0 := by
    intro h
    rcases Nat.mul_eq_zero.1 h with h | h <;> omega
  have hzs0 : ¬ zs = [] := by rintro rfl; simp at hpos'
  have hcells := makeCells zs c
  have hrun : (Instr.makeSlice t (.int k1 c) (.int k2 c)).run P w = .ok (.slice (some ⟨w.heap.size, 0, none⟩) c c) (w.alloc (.cells ((List.replicate c zs).flatten).toArray e)) := by
    simp only [List.size_toArray] at hcells
    have hcells' := hcells
    simp only [List.getElem!_toArray, List.getElem!_eq_getElem?_getD] at hcells'
    simp [Instr.makeSlice, run_underlying hu, asInt, asIntOf, hti, hwr, hnl, hbig, runSz hz, hc0, hn0, hzs0, runZv hzv, newRow, hz1, hcells']
  have hex : (execOp act.eval ⟨some d, .makeSlice t x y, T, pos, af, none⟩).run P w = .ok (.value (.slice (some ⟨w.heap.size, 0, none⟩) c c)) (w.alloc (.cells ((List.replicate c zs).flatten).toArray e)) := by
    simp only [execOp, ha.eval hx, ha.eval hy, Sem.run_bind, hrun]; rfl
  unfold Oper.wp
  rw [hex]
  have hlen : ((List.replicate c zs).flatten).length = c * zs.length := by simp
  refine hK _ _ ((kk _).go _ _ (ha.put (by simpa using hn) _) ((hst.newBlk _ _).mono fun S w2 h => star_mono h (fun S' h' => ?_) fun _ h => h))
  have h2 : (HP.blk w.heap.size ((List.replicate c zs).flatten ++ []).toArray e).sat S' w2 := by rw [List.append_nil]; exact h'
  exact blk_own h2 hlen (Nat.le_refl _) (by simp)
theorem runEqSlNil {w : World} {e : TypeId} {p : Option Addr} {l c l2 c2 : Nat} (hu : P.underlying t = some (.slice e)) : (Op.equal t (.slice p l c) (.slice none l2 c2)).run P w = .ok p.isNone w := by
  have key : ∀ d, (Op.equalIn (d + 1) t (.slice p l c) (.slice none l2 c2)).run P w = .ok p.isNone w := fun d => by
    rw [Op.equalIn]
    simp only [Sem.run_bind, run_underlying hu, Result.andThen]
    cases p <;> rfl
  exact key 9999
/-- A slice against nil. -/
theorem EvW.eqNilT {l c l2 c2 : Nat} {e : TypeId} (hx : ev F x = some (.slice none l c)) (hy : ev F y = some (.slice none l2 c2)) (hu : P.underlying t = some (.slice e)) : EvW P w0 S0 n F A ⟨dd, .binOp .eql t x y ty, T, pos, af, g⟩ (.bool true) :=
  .pure fun a' w ha _ => by simp [execOp, ha.eval hx, ha.eval hy, eqGuard, binOp, runEqSlNil hu]
theorem EvW.eqNilF {l c l2 c2 : Nat} {a : Addr} {e : TypeId} (hx : ev F x = some (.slice (some a) l c)) (hy : ev F y = some (.slice none l2 c2)) (hu : P.underlying t = some (.slice e)) : EvW P w0 S0 n F A ⟨dd, .binOp .eql t x y ty, T, pos, af, g⟩ (.bool false) :=
  .pure fun a' w ha _ => by simp [execOp, ha.eval hx, ha.eval hy, eqGuard, binOp, runEqSlNil hu]
theorem flat_len {α : Type} {f : α → List Value} {sz : Nat} (hf : ∀ a, (f a).length = sz) : ∀ xs : List α, (xs.flatMap f).length = xs.length * sz
  | [] => by simp
  | x :: xs => by rw [List.flatMap_cons, List.length_append, hf, flat_len hf xs, List.length_cons, Nat.succ_mul, Nat.add_comm]
theorem EffW.stFld {α : Type} {xs : List α} {f : α → List Value} {i off sz len : Nat} {u v : Value} {ys : List Value} {ee : TypeId} {r : List HP} {A' : List HP} (yy : α) (hx : ev F x = some (elemP sz v i off)) (hy : ev F y = some u) (hv : u.cells = ys.toArray) (hz : szB P t = some ys.length) (h1 : ys.all (·.oneCell') = true) (hpos : Nat.ble 1 ys.length = true) (ht : Take (.own ee sz v len (xs.flatMap f)) A r) [Inhabited α] (hf : ∀ a, (f a).length = sz) (hi : i < xs.length) (hyy : f yy = over (f (xs.getD i default)) off ys) (hle : Nat.ble (off + ys.length) sz = true)
    (ht' : Take (.own ee sz v len ((xs.set i yy).flatMap f)) A' r) : EffW P w0 S0 n F A A' ⟨none, .store t x y, T, pos, af, g⟩ undef := by
  have hle' := Nat.le_of_ble_eq_true hle
  refine .stOwn hx hy hv hz h1 hpos ht ?_ (by rw [over_flat hf xs i hi hyy hle']; exact ht')
  rw [flat_len hf]
  have : (i + 1) * sz ≤ xs.length * sz := Nat.mul_le_mul_right _ hi
  rw [Nat.succ_mul] at this
  omega
theorem getD_set_same {α : Type} {xs : List α} {i : Nat} {a d : α} (h : i < xs.length) : (xs.set i a).getD i d = a := by
  rw [List.getD_eq_getElem?_getD, List.getElem?_set_self h, Option.getD_some]
theorem set_getD_same {α : Type} {xs : List α} {i : Nat} {d : α} (h : i < xs.length) : xs.set i (xs.getD i d) = xs := by
  rw [List.getD_eq_getElem?_getD, List.getElem?_eq_getElem h, Option.getD_some, List.set_getElem_self]
theorem elemP_one (sz : Nat) (v : Value) (i off : Nat) : (elemP sz v i off).oneCell' = true := by
  unfold elemP
  split <;> rfl
theorem elemP_cells (sz : Nat) (v : Value) (i off : Nat) : (elemP sz v i off).cells = [elemP sz v i off].toArray := cells_one (elemP_one sz v i off)
theorem EvW.ldElemOwn {α : Type} {xs : List α} {f : α → List Value} {z : α} {v : Value} {i sz len : Nat} {ee : TypeId} {r : List HP} (hx : ev F x = some (elemP sz v i 0)) (hs : aggB P t = true) (hm : szB P t = some sz) (hpos : Nat.ble 1 sz = true) (hf : ∀ a, (f a).length = sz) (ht : Take (.own ee sz v len (xs.flatMap f)) A r) (hi : i < xs.length) :
    EvW P w0 S0 n F A ⟨dd, .load t x, T, pos, af, g⟩ (.agg (f (xs.getD i z)).toArray) :=
  .pure fun a' w ha hst => by
    obtain ⟨R, hR⟩ := hst.take ht
    have hl : i * sz + 0 + sz ≤ (xs.flatMap f).length := by
      rw [flat_len hf]
      calc i * sz + 0 + sz = (i + 1) * sz := by rw [Nat.add_mul]; omega
        _ ≤ xs.length * sz := Nat.mul_le_mul_right _ hi
    have hg := flat_get (z := z) hf hi
    generalize f (xs.getD i z) = out at hg
    simp [execOp, ha.eval hx, runLoadAggAt hs hm (Nat.le_of_ble_eq_true hpos) (own_row hR) hg hl]
end
end Go.BK
