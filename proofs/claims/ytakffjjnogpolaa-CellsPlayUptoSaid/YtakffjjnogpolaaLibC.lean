/- What each operation does, told of frames and assertions. No program in sight. -/
import Derived.Test.YtakffjjnogpolaaLibB
import Derived.WalkSpells
import Derived.WalkLawsBesides
namespace Go.BK
open Go.RowKit

def scalB (P : Program) (t : TypeId) : Bool :=
  match P.underlying t with
  | some (.struct _) | some (.array _ _) | none => false
  | some _ => true
def aggB (P : Program) (t : TypeId) : Bool :=
  match P.underlying t with
  | some (.struct _) | some (.array _ _) => true
  | _ => false
def szB (P : Program) (t : TypeId) : Option Nat := (P.info? t).map (·.size)
def byB (P : Program) (t : TypeId) : Option Nat := (P.info? t).map (·.bytes)
def zvB (P : Program) (t : TypeId) : Option Value := (P.info? t).bind (·.zero)
/-- The offset of a field that has cells. -/
def fieldB (P : Program) (s i : Nat) : Option Nat :=
  match P.underlying s with
  | some (.struct fs) => match fs[i]? with
    | some f => if P.cellsOf f.type = 0 then none else some f.offset
    | none => none
  | _ => none
/-- The offset and, of a field with an aggregate in it, the size. -/
def fieldV (P : Program) (s i : Nat) : Option (Nat × Option Nat) :=
  match P.underlying s with
  | some (.struct fs) => match fs[i]? with
    | some f => if aggB P f.type then (szB P f.type).map fun n => (f.offset, some n) else if scalB P f.type then some (f.offset, none) else none
    | none => none
  | _ => none

/-- The places and sizes of a struct's fields. -/
def structB (P : Program) (t : TypeId) : Option (List (Nat × Nat)) :=
  match P.underlying t with
  | some (.struct fs) => if fs.toList.all fun f => (szB P f.type).isSome then some (fs.toList.map fun f => (f.offset, (szB P f.type).getD 0)) else none
  | _ => none
class UndC (P : Program) (t : TypeId) (d : outParam TypeDesc) : Prop where eq : P.underlying t = some d
class ScalC (P : Program) (t : TypeId) : Prop where eq : scalB P t = true
class AggC (P : Program) (t : TypeId) : Prop where eq : aggB P t = true
class SzC (P : Program) (t : TypeId) (k : outParam Nat) : Prop where eq : szB P t = some k
class ByC (P : Program) (t : TypeId) (k : outParam Nat) : Prop where eq : byB P t = some k
class ZvC (P : Program) (t : TypeId) (z : outParam Value) : Prop where eq : zvB P t = some z
class FldC (P : Program) (s i : Nat) (off : outParam Nat) : Prop where eq : fieldB P s i = some off
class FvC (P : Program) (s i : Nat) (q : outParam (Nat × Option Nat)) : Prop where eq : fieldV P s i = some q
class PlC (P : Program) (t : TypeId) (pl : outParam (List (Nat × Nat))) : Prop where eq : structB P t = some pl
/-- The value at a place, in a form that needs no more reckoning. -/
def getL : List Value → Nat → Option Value
  | [], _ => none
  | v :: _, 0 => some v
  | _ :: r, i + 1 => getL r i
theorem getL_eq : ∀ (l : List Value) (i : Nat), getL l i = l[i]?
  | [], i => by simp [getL]
  | v :: r, 0 => rfl
  | v :: r, i + 1 => by simp [getL, getL_eq r i]
/-- Some of a list, in its order. -/
inductive SubL : List Value → Nat → Nat → List Value → Prop
  | nil {l : List Value} : SubL l 0 0 []
  | cons {x : Value} {r out : List Value} {m : Nat} : SubL r 0 m out → SubL (x :: r) 0 (m + 1) (x :: out)
  | succ {x : Value} {r out : List Value} {o m : Nat} : SubL r o m out → SubL (x :: r) (o + 1) m out
theorem SubL.eq {l out : List Value} {o m : Nat} (h : SubL l o m out) : o + m ≤ l.length ∧ l.toArray.extract o (o + m) = out.toArray := by
  induction h with
  | nil => simp
  | @cons x r out m _ ih =>
    obtain ⟨h1, h2⟩ := ih
    refine ⟨by simp; omega, ?_⟩
    simp [List.extract_eq_take_drop] at h2 ⊢
    exact h2
  | @succ x r out o m _ ih =>
    obtain ⟨h1, h2⟩ := ih
    refine ⟨by simp; omega, ?_⟩
    simp [List.extract_eq_take_drop, Nat.add_right_comm o 1 m] at h2 ⊢
    exact h2
section runs
variable {P : Program} {w : World}
theorem runU {t : TypeId} {d : TypeDesc} (h : P.underlying t = some d) : (underlying t).run P w = .ok d w := run_underlying h w
theorem runScal {t : TypeId} (h : scalB P t = true) : (isAgg t).run P w = .ok false w := by
  unfold scalB at h
  unfold isAgg
  split at h
  · simp at h
  · simp at h
  · simp at h
  · rename_i d h1 h2 h3 hd
    cases d <;> simp_all [run_underlying hd]
theorem runAgg {t : TypeId} (h : aggB P t = true) : (isAgg t).run P w = .ok true w := by
  unfold aggB at h
  unfold isAgg
  split at h
  · rename_i hd; simp [run_underlying hd]
  · rename_i hd; simp [run_underlying hd]
  · simp at h
theorem runSz {t : TypeId} {k : Nat} (h : szB P t = some k) : (sizeOf t).run P w = .ok k w := by
  unfold szB at h
  cases hi : P.info? t with
  | none => simp [hi] at h
  | some i => simp [hi] at h; unfold sizeOf; simp [run_typeInfo w hi, h]
theorem runZv {t : TypeId} {z : Value} (h : zvB P t = some z) : (zeroValue t).run P w = .ok z w := by
  unfold zvB at h
  cases hi : P.info? t with
  | none => simp [hi] at h
  | some i => simp [hi] at h; unfold zeroValue; simp [run_typeInfo w hi, h]
theorem runFieldAt {s i off b o : Nat} (h : fieldB P s i = some off) : (Instr.fieldAt s (.pointer (some ⟨b, o, none⟩)) i).run P w = .ok (.pointer (some ⟨b, o + off, none⟩)) w := by
  unfold fieldB at h
  split at h
  · rename_i fs hu
    split at h
    · rename_i f hf
      split at h
      · simp at h
      · rename_i hz
        simp at h
        have hs : szB P f.type = some (P.cellsOf f.type) := by
          unfold Program.cellsOf at hz ⊢
          unfold szB
          cases hi : P.info? f.type with
          | none => simp [hi] at hz
          | some i => simp
        unfold Instr.fieldAt
        simp [run_underlying hu, hf, Instr.sureAddr, fieldPlace, runSz hs, hz, Addr.add, h]
    · simp at h
  · simp at h
theorem runLoadScal {t : TypeId} {p : Addr} {v : Value} (h : scalB P t = true) (hc : w.cell? p = some v) : (Instr.loadAt t (.pointer (some p))).run P w = .ok v w := by
  unfold Instr.loadAt
  simp [Instr.sureAddr, loadVar, runScal h, hc]
theorem runLoadCells {b : Nat} (c : Array Value) (o : Nat) : ∀ (k i : Nat) (acc : Array Value), (∀ j, j < i + k → i ≤ j → w.cell? ⟨b, o + j, none⟩ = c[o + j]?) → o + i + k ≤ c.size →
    (loadCellsFrom ⟨b, o, none⟩ i k acc).run P w = .ok (acc ++ (c.extract (o + i) (o + i + k))) w := by
  intro k
  induction k with
  | zero => intro i acc _ _; simp [loadCellsFrom]; omega
  | succ k ih =>
    intro i acc h hs
    have h0 := h i (by omega) (Nat.le_refl _)
    have ha : Addr.add ⟨b, o, none⟩ i = ⟨b, o + i, none⟩ := by
      unfold Addr.add; split
      · rename_i e; subst e; rfl
      · rfl
    have hlt : o + i < c.size := by omega
    rw [Array.getElem?_eq_getElem hlt] at h0
    simp only [loadCellsFrom]
    simp [ha, h0]
    rw [ih (i + 1) _ (fun j hj hi => h j (by omega) (by omega)) (by omega)]
    congr 1
    apply Array.ext'
    simp only [Array.toList_append, Array.toList_push, Array.toList_extract, List.append_assoc]
    congr 1
    simp only [List.extract_eq_take_drop]
    have hd : c.toList.drop (o + i) = c[o + i] :: c.toList.drop (o + i + 1) := by rw [List.drop_eq_getElem_cons (by simpa using hlt)]; simp
    rw [show o + i + (k + 1) - (o + i) = k + 1 from by omega, show o + (i + 1) + k - (o + (i + 1)) = k from by omega, hd, show o + (i + 1) = o + i + 1 from by omega]
    simp
theorem runLoadAgg {t : TypeId} {b o k : Nat} {c : Array Value} {T : TypeId} (h : aggB P t = true) (hk : szB P t = some k) (hb : blkAt b c T w) (hs : Nat.ble (o + k) c.size = true) : (Instr.loadAt t (.pointer (some ⟨b, o, none⟩))).run P w = .ok (.agg (c.extract o (o + k))) w := by
  have hs' := Nat.le_of_ble_eq_true hs
  unfold Instr.loadAt
  simp only [Instr.sureAddr, loadVar, Sem.run_bind, Sem.run_pure, Result.andThen, runAgg h]
  have := runLoadCells (P := P) (w := w) (b := b) c o k 0 #[] (fun j hj _ => by
    obtain ⟨lo, hi, h, _⟩ := hb
    simp [World.cell?, h]) (by omega)
  simp [runSz hk, loadCells, this, Result.andThen]
theorem cells_one {v : Value} (h : v.oneCell' = true) : v.cells = #[v] := by cases v <;> simp_all [Value.oneCell', Value.cells]
theorem runStoreScal {t : TypeId} {p : Addr} {u v : Value} (h : szB P t = some 1) (h1 : v.oneCell' = true) (hc : w.cell? p = some u) (hf : w.frozen? p = false) : (Instr.storeAt t (.pointer (some p)) v).run P w = .ok () (w.setCell p v) := by
  unfold Instr.storeAt
  simp [Instr.sureAddr, storeVar, runSz h, cells_one h1, storeCells, Addr.add, run_store P w p v .plain h1, hc, hf]
end runs
end Go.BK
