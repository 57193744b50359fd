/- What the document's reader does, call by call. -/
import Derived.Test.YtecfagifkpgedaaPackH
namespace Go.Proofs.Ytecfagifkpgedaa
open Go.RowKit Go.BK

theorem num_bad (m : PR) (k : Nat) (h : m.e = 1 ∨ m.s.length < k) (he : m.e = 0 ∨ m.e = 1) : m.num k = (0, ⟨1, m.s⟩) := by
  unfold PR.num PR.take
  by_cases hs : m.s.length < k
  · rw [if_pos (by omega)]; rcases he with he | he <;> simp [PR.note, he, numOf]
  · have h1 : m.e = 1 := h.resolve_right hs
    rw [if_neg (by omega), if_neg (by omega)]
    simp only [numOf, List.foldl_nil, Prod.mk.injEq, true_and]
    cases m; simp_all
theorem num_good (m : PR) (k : Nat) (he : m.e = 0) (hs : k ≤ m.s.length) : m.num k = (numOf (m.s.take k), ⟨0, m.s.drop k⟩) := by
  unfold PR.num PR.take
  rw [if_neg (by omega), if_pos he]
  simp [he]
theorem text_bad (m : PR) (h : m.e = 1 ∨ m.s = [] ∨ m.s.length < 1 + (m.s.getD 0 0).toNat) (he : m.e = 0 ∨ m.e = 1) : m.text = ([], ⟨1, m.s⟩) := by
  unfold PR.text
  by_cases hs : m.s = []
  · rw [if_pos hs]; rcases he with he | he <;> simp [PR.note, he]
  · rw [if_neg hs]
    unfold PR.take
    by_cases hl : m.s.length < 1 + (m.s.getD 0 0).toNat
    · rw [if_pos hl]; rcases he with he | he <;> simp [PR.note, he]
    · have h1 : m.e = 1 := h.resolve_right (fun h => h.elim hs hl)
      rw [if_neg hl, if_neg (by omega)]
      cases m; simp_all
theorem text_good (m : PR) (he : m.e = 0) (hs : ¬ m.s = []) (hl : ¬ m.s.length < 1 + (m.s.getD 0 0).toNat) : m.text = ((m.s.drop 1).take (m.s.getD 0 0).toNat, ⟨0, m.s.drop (1 + (m.s.getD 0 0).toNat)⟩) := by
  unfold PR.text PR.take
  rw [if_neg hs, if_neg hl, if_pos he, he]
end Go.Proofs.Ytecfagifkpgedaa
