/- The law of readers: a reader takes what the document says. -/
import Derived.Test.YtgcpoehchohleaaPackJ
namespace Go.Proofs.Ytgcpoehchohleaa
open Go.RowKit Go.BK

/-- A thing that is written, or asked for. -/
structure Item where
  k : Int
  n : Int
  s : List UInt8
def itemC (i : Item) : List Value := [i64 i.k, i64 i.n, str i.s]
def Item.kind (i : Item) : Int := IntKind.u64.wrap i.k % 4
theorem PR.take_e (m : PR) (a k : Nat) (he : m.e = 0 ∨ m.e = 1) : (m.take a k).2.e = 0 ∨ (m.take a k).2.e = 1 := by
  unfold PR.take
  split
  · simp only [PR.note]; split <;> simp_all
  · split <;> simp_all
theorem PR.take_s (m : PR) (a k : Nat) : (m.take a k).2.s.length ≤ m.s.length := by
  unfold PR.take
  split
  · simp [PR.note]
  · split <;> simp
theorem PR.text_e (m : PR) (he : m.e = 0 ∨ m.e = 1) : m.text.2.e = 0 ∨ m.text.2.e = 1 := by
  unfold PR.text
  split
  · simp only [PR.note]; split <;> simp_all
  · exact PR.take_e m _ _ he
theorem PR.text_s (m : PR) : m.text.2.s.length ≤ m.s.length := by
  unfold PR.text
  split
  · simp [PR.note]
  · exact PR.take_s m _ _
end Go.Proofs.Ytgcpoehchohleaa
