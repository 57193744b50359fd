/- Short displays of what is left to show. No program in sight. -/
import Derived.Test.YtcpodeodgpjbiaaLibM
namespace Go.BK
open Go.RowKit

section
variable {P : Program} {w0 : World} {S0 : BSet} {n : Nat} {F : Fr} {A : List HP} {ops : Array Oper} {Q : Exit → Act → World → Prop} {rest : List Oper} {o : Oper} {c : Code} {e : Exit}
def WL.Sh {P : Program} {w0 : World} {S0 : BSet} {n : Nat} {ops : Array Oper} {Q : Exit → Act → World → Prop} {rest : List Oper} {o : Oper} (d : Option Nat) (op : Op) (F : Fr) (A : List HP) : Prop := (o.dst = d ∧ o.op = op) → WL P w0 S0 n ops Q (o :: rest) F A
def WC.Sh {P : Program} {w0 : World} {S0 : BSet} {n : Nat} {c : Code} {Q : Exit → Act → World → Prop} (F : Fr) (A : List HP) : Prop := WC P w0 S0 n c Q F A
def WE.Sh {w0 : World} {S0 : BSet} {n : Nat} {Q : Exit → Act → World → Prop} (e : Exit) (F : Fr) (A : List HP) : Prop := WE w0 S0 n Q e F A
theorem WL.sh (h : WL.Sh (P := P) (w0 := w0) (S0 := S0) (n := n) (ops := ops) (Q := Q) (rest := rest) (o := o) o.dst o.op F A) : WL P w0 S0 n ops Q (o :: rest) F A := h ⟨rfl, rfl⟩
theorem WC.sh (h : WC.Sh (P := P) (w0 := w0) (S0 := S0) (n := n) (c := c) (Q := Q) F A) : WC P w0 S0 n c Q F A := h
theorem WE.sh (h : WE.Sh (w0 := w0) (S0 := S0) (n := n) (Q := Q) e F A) : WE w0 S0 n Q e F A := h
end
end Go.BK
