/- Seal: the example; a body comes back from its frame. -/
import Derived.Test.YtgcpoehchohleaaSealE
namespace Go.Proofs.Ytgcpoehchohleaa
open Go.RowKit Go.BK

theorem sealF_ok (b : List UInt8) (h : b.length ≤ 1024) : sealF b = (frame b, 0) := by unfold sealF; rw [if_neg (by omega)]
theorem sealF_long (b : List UInt8) (h : 1024 < b.length) : sealF b = ([], 2) := by unfold sealF; rw [if_pos h]
/-- Of one part. -/
theorem seal1_spec (v : Value) (b : List UInt8) (w : World) (S : BSet) (hS : (sepL []).sat S w) (hx : Sees w S (.row 1 v 1 [str b])) (hl : b.length ≤ 140737488355328) :
    Tri Try.prog 31 #[v] w S fun u A => u = .tuple #[str (sealF b).1, i64 (sealF b).2] ∧ A = [] := by
  have := seal_spec v [b] w S hS hx (by simp) (by simpa using hl)
  rwa [show [b].flatten = b by simp] at this
/-- Of parts that are a text. -/
theorem sumOf_spec (v : Value) (ps : List (List UInt8)) (l : List UInt8) (hf : ps.flatten = l) (w : World) (S : BSet) (hS : (sepL []).sat S w) (hx : Sees w S (.row 1 v ps.length (ps.map str))) (hpl : ps.length ≤ 140737488355328) (hl : l.length ≤ 140737488355328) :
    Tri Try.prog 51 #[v] w S fun u A => u = i64 ((crc l).toNat : Int) ∧ A = [] := by
  subst hf
  refine sum_spec v ps w S hS hx hpl fun p hp => ?_
  have : p.length ≤ ps.flatten.length := by
    clear hx hpl hl
    induction ps with
    | nil => cases hp
    | cons x r ih =>
      rw [List.flatten_cons, List.length_append]
      rcases List.mem_cons.1 hp with rfl | h
      · omega
      · have := ih h; omega
  omega
theorem sealOf_spec (v : Value) (ps : List (List UInt8)) (l : List UInt8) (hf : ps.flatten = l) (w : World) (S : BSet) (hS : (sepL []).sat S w) (hx : Sees w S (.row 1 v ps.length (ps.map str))) (hpl : ps.length ≤ 140737488355328) (hl : l.length ≤ 140737488355328) :
    Tri Try.prog 31 #[v] w S fun u A => u = .tuple #[str (sealF l).1, i64 (sealF l).2] ∧ A = [] := by
  subst hf
  exact seal_spec v ps w S hS hx hpl hl
end Go.Proofs.Ytgcpoehchohleaa
