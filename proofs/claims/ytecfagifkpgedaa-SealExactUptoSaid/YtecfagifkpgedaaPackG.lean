/- What the document's writer does, call by call. -/
import Derived.Test.YtecfagifkpgedaaPackD
namespace Go.Proofs.Ytecfagifkpgedaa
open Go.RowKit Go.BK

def PW.rput (m : PW) (b : List UInt8) (r : Bool) : PW := if m.e ≠ 0 then m else if r then (if m.lim - m.out.length < b.length then m.note 2 else m.add b) else m.note 32
theorem rput_true (m : PW) (b : List UInt8) : m.rput b true = m.put b := by
  unfold PW.rput PW.put
  by_cases he : m.e = 0
  · rw [if_neg (by simp [he]), if_pos rfl]; simp [he]
  · rw [if_pos he, if_neg he]
    split
    · simp [PW.note, he]
    · rfl
theorem rput_false (m : PW) (b : List UInt8) : m.rput b false = m.note 32 := by
  unfold PW.rput
  by_cases he : m.e = 0
  · rw [if_neg (by simp [he])]; rfl
  · rw [if_pos he]; simp [PW.note, he]
theorem put_note (m : PW) (b : List UInt8) (c : Int) (hc : c ≠ 0) : (m.note c).put b = m.note c := by
  have he : ¬ (m.note c).e = 0 := by simp only [PW.note]; split <;> assumption
  rw [← rput_true]; unfold PW.rput; rw [if_pos he]
end Go.Proofs.Ytecfagifkpgedaa
