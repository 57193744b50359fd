/- Short displays of what is left to show. No program in sight. -/
import Derived.Test.YtakffjjnogpolaaLibM
namespace Go.BK
open Go.RowKit

section
variable {P : Program} {w0 : World} {S0 : BSet} {n : Nat} {F : Fr} {A : List HP} {ops : Array Oper} {Q : Exit → Act → World → Prop} {rest : List Oper} {o : Oper} {c : Code} {e : Exit}
def WL.Sh {P : Program} {w0 : World} {S0 : BSet} {n : Nat} {ops : Array Oper} {Q : Exit → Act → World → Prop} {rest : List Oper} {o : Oper} (d : Option Nat) (op : Op) (F : Fr) (A : List HP) : Prop := (o.dst = d ∧ o.op = op) → WL P w0 S0 n ops Q (o :: rest) F A
def WC.Sh {P : Program} {w0 : World} {S0 : BSet} {n : Nat} {c : Code} {Q : Exit → Act → World → Prop} (F : Fr) (A : List HP) : Prop := WC P w0 S0 n c Q F A
def WE.Sh {w0 : World} {S0 : BSet} {n : Nat} {Q : Exit → Act → World → Prop} (e : Exit) (F : Fr) (A : List HP) : Prop := WE w0 S0 n Q e F A
theorem WL.sh (h : WL.Sh (P := P) (w0 := w0) (S0 := S0) (n := n) (ops := ops) (Q := Q) (rest := rest) (o := o) o.dst o.op F A) : WL P w0 S0 n ops Q (o :: rest) F A := h ⟨rfl, rfl⟩
theorem WC.sh (h : WC.Sh (P := P) (w0 := w0) (S0 := S0) (n := n) (c := c) (Q := Q) F A) : WC P w0 S0 n c Q F A := h
theorem WE.sh (h : WE.Sh (w0 := w0) (S0 := S0) (n := n) (Q := Q) e F A) : WE w0 S0 n Q e F A := h
variable {dd : Option Tmp} {T t ty : TypeId} {pos : String} {af : Array Edge} {g : Option (Nat × Bool)} {x y : Operand}
/-- Alike texts. -/
theorem EvW.seqS {l : List UInt8} (hx : ev F x = some (str l)) (hy : ev F y = some (str l)) : EvW P w0 S0 n F A ⟨dd, .binOp .eql t x y ty, T, pos, af, g⟩ (.bool true) := by
  have := EvW.seq (P := P) (w0 := w0) (S0 := S0) (n := n) (A := A) (d := dd) (T := T) (pos := pos) (af := af) (g := g) (t := t) (ty := ty) hx hy
  simpa using this
theorem EvW.sneS {l : List UInt8} (hx : ev F x = some (str l)) (hy : ev F y = some (str l)) : EvW P w0 S0 n F A ⟨dd, .binOp .neq t x y ty, T, pos, af, g⟩ (.bool false) := by
  have := EvW.sne (P := P) (w0 := w0) (S0 := S0) (n := n) (A := A) (d := dd) (T := T) (pos := pos) (af := af) (g := g) (t := t) (ty := ty) hx hy
  simpa using this
/-- Slots of a frame, as they are. -/
inductive Pick (F : Fr) : List Nat → Fr → Prop
  | nil : Pick F [] []
  | cons {k : Nat} {v : Value} {ks : List Nat} {r : Fr} : F.get k = some v → Pick F ks r → Pick F (k :: ks) ((k, v) :: r)
theorem WC.loopK {σ : Type} (ks : List Nat) {K : Fr} (V : σ → Fr) (Ai : σ → List HP) (I : σ → Prop) (μ : σ → Nat) (s0 : σ) (_hK : Pick F ks K) (hF : Sub (V s0 ++ K) F) (hA : ∀ w, St w0 S0 A w → St w0 S0 (Ai s0) w) (hI : I s0)
    (round : ∀ s, I s → WC P w0 S0 n c (Exit.then (fun a' w' => ∃ s', I s' ∧ Agr n (V s' ++ K) a' ∧ St w0 S0 (Ai s') w' ∧ μ s' < μ s) Q) (V s ++ K) (Ai s)) : WC P w0 S0 n (.loop c) Q F A :=
  WC.loop (fun s => V s ++ K) Ai I μ s0 hF hA hI round
end
end Go.BK
