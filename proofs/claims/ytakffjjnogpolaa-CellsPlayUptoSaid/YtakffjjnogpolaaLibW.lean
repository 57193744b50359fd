/- Maps that are nil, deletion in a region of open order, lists of cells with lists in them. No program in sight. -/
import Derived.Test.YtakffjjnogpolaaLibV
namespace Go.BK
open Go.RowKit Go.MapKept

section
variable {P : Program} {w0 : World} {S0 : BSet} {n : Nat} {F : Fr} {A : List HP} {dd : Option Tmp} {T : TypeId} {pos : String} {af : Array Edge} {x y : Operand} {t ty : TypeId} {g : Option (Nat × Bool)} {ops : Array Oper} {rest : List Oper} {Q : Exit → Act → World → Prop} {d : Tmp}

/-- A map that may be nil. -/
def HP.omap (o : Option Nat) (m : List (Int × Value)) : HP := match o with
  | none => HP.pure (m = [])
  | some b => .imap b m
theorem EvW.lookupOkN {k e : TypeId} {q : IntKind} {a : Int} {z : Value} (hx : ev F x = some (.map none)) (hy : ev F y = some (i64 a)) (hu : P.underlying t = some (.map k e)) (hk : P.underlying k = some (.int q)) (hz : zvB P e = some z) :
    EvW P w0 S0 n F A ⟨dd, .lookup t x y true, T, pos, af, g⟩ (.tuple #[z, .bool false]) :=
  .pure fun a' w ha hst => by
    have hz' := runZv (w := w) hz
    have hf := runFindInt (w := w) (a := a) (es := []) (m := []) hk rfl
    simp [execOp, ha.eval hx, ha.eval hy, Instr.lookup, run_underlying hu, Result.andThen, runCheckInt hk, hf, mfind, hz']
theorem EvW.deleteN {k e T2 : TypeId} {q : IntKind} {a : Int} (hx : ev F x = some (.map none)) (hy : ev F y = some (i64 a)) (hu : P.underlying t = some (.map k e)) (hk : P.underlying k = some (.int q)) :
    EvW P w0 S0 n F A ⟨dd, .call ⟨.builtin .delete, #[x, y], #[t, T2]⟩, T, pos, af, g⟩ (.tuple #[]) :=
  .pure fun a' w ha hst => by
    simp [execOp, resolve, invoke, builtin, ha.eval hx, ha.eval hy, Builtin.delete_, run_underlying hu, Result.andThen, runCheckInt hk]
theorem EffW.delete {k e T2 : TypeId} {q : IntKind} {b : Nat} {m : List (Int × Value)} {a : Int} {A' : List HP} (hx : ev F x = some (.map (some b))) (hy : ev F y = some (i64 a)) (hu : P.underlying t = some (.map k e)) (hk : P.underlying k = some (.int q)) (ht : UpdM b m (mdel a m) A A') :
    EffW P w0 S0 n F A A' ⟨none, .call ⟨.builtin .delete, #[x, y], #[t, T2]⟩, T, pos, af, g⟩ (.tuple #[]) := by
  refine ⟨fun Q K a' w ha hst hK => ?_⟩
  obtain ⟨r, t1, _⟩ := ht.take
  obtain ⟨S, _, es, cl, h2, h3⟩ := hst.take t1
  obtain ⟨es', cl', h4, h5⟩ := runDelete (a := a) (T2 := T2) (T3 := T) hu hk h2 h3
  have hrun : (execOp a'.eval ⟨none, .call ⟨.builtin .delete, #[x, y], #[t, T2]⟩, T, pos, af, g⟩).run P w = .ok (.value (.tuple #[])) { w with heap := w.heap.setIfInBounds b (.map es' cl') } := by
    simp [execOp, resolve, invoke, builtin, ha.eval hx, ha.eval hy, h4]
  unfold Oper.wp
  rw [hrun]
  exact hK _ (hst.updM ht h5)
theorem EffW.mapUpdate {k e : TypeId} {q : IntKind} {b : Nat} {m : List (Int × Value)} {a : Int} {v : Value} {z : Operand} {A' : List HP} (hx : ev F x = some (.map (some b))) (hy : ev F y = some (i64 a)) (hv : ev F z = some v) (hu : P.underlying t = some (.map k e)) (hk : P.underlying k = some (.int q)) (ht : UpdM b m (mput a v m) A A') :
    EffW P w0 S0 n F A A' ⟨none, .mapUpdate t x y z, T, pos, af, g⟩ undef := by
  refine ⟨fun Q K a' w ha hst hK => ?_⟩
  obtain ⟨r, t1, _⟩ := ht.take
  obtain ⟨S, _, es, cl, h2, h3⟩ := hst.take t1
  obtain ⟨es', cl', h4, h5⟩ := runUpdate (a := a) (v := v) hu hk h2 h3
  have hrun : (execOp a'.eval ⟨none, .mapUpdate t x y z, T, pos, af, g⟩).run P w = .ok .skip { w with heap := w.heap.setIfInBounds b (.map es' cl') } := by
    simp [execOp, ha.eval hx, ha.eval hy, ha.eval hv, h4]
  unfold Oper.wp
  rw [hrun]
  exact hK _ (hst.updM ht h5)
end
/-- Cells from a place on, of which the length is that of a list. -/
theorem SubL.all : ∀ (xs r : List Value), SubL (xs ++ r) 0 xs.length xs
  | [], _ => .nil
  | _ :: xs, r => .cons (SubL.all xs r)
theorem SubL.behind {o m : Nat} {out r : List Value} (h : SubL r o m out) : ∀ xs : List Value, SubL (xs ++ r) (o + xs.length) m out
  | [] => h
  | x :: xs => by rw [List.length_cons, ← Nat.add_assoc]; exact .succ (SubL.behind h xs)
theorem SetMany.all : ∀ (ys xs r : List Value), ys.length = xs.length → SetMany (ys ++ r) 0 xs (xs ++ r)
  | [], [], _, _ => .nil
  | [], _ :: _, _, h => by simp at h
  | _ :: _, [], _, h => by simp at h
  | _ :: ys, _ :: xs, r, h => .cons (SetMany.all ys xs r (by simpa using h))
theorem SetMany.behind {o : Nat} {r cs r' : List Value} (h : SetMany r o cs r') : ∀ xs : List Value, SetMany (xs ++ r) (o + xs.length) cs (xs ++ r')
  | [] => h
  | x :: xs => by rw [List.length_cons, ← Nat.add_assoc]; exact .succ (SetMany.behind h xs)
theorem SetMany.one {v : Value} {r : List Value} : ∀ (xs : List Value) (i : Nat), i < xs.length → SetMany (xs ++ r) i [v] (xs.set i v ++ r)
  | [], _, h => by simp at h
  | _ :: xs, 0, _ => .cons .nil
  | _ :: xs, i + 1, h => .succ (SetMany.one xs i (by simpa using h))
theorem getL_app (xs r : List Value) (i : Nat) (h : i < xs.length) : getL (xs ++ r) i = xs[i]? := by rw [getL_eq, List.getElem?_append_left h]
theorem getL_behind (xs r : List Value) (i : Nat) : getL (xs ++ r) (i + xs.length) = getL r i := by rw [getL_eq, getL_eq, List.getElem?_append_right (by omega), Nat.add_sub_cancel]
end Go.BK
