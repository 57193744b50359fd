/- What the document's writer does with numbers and texts. -/
import Derived.Test.YtecfagifkpgedaaPackG
import Derived.Test.YtecfagifkpgedaaPackL
import Derived.Test.YtecfagifkpgedaaLibN
namespace Go.Proofs.Ytecfagifkpgedaa
open Go.RowKit Go.BK

theorem num_wrong (k : Nat) (m : PW) (x : Int) (h : x < 0 ∨ 256 ^ k ≤ x) : m.num k x = m.note 32 := by
  unfold PW.num
  rw [if_pos, put_note _ _ _ (by decide)]
  rcases h with h | h
  · exact .inl h
  · by_cases h0 : x < 0
    · exact .inl h0
    · right
      rw [fdiv_two, Int.pow_mul]
      intro h2
      have := Int.ediv_mul_add_emod x (2 ^ 8 : Int) 
      have h3 : (0 : Int) < (2 ^ 8) ^ k := Int.pow_pos (by decide)
      have h4 : 1 ≤ x / (2 ^ 8) ^ k := (Int.le_ediv_iff_mul_le h3).2 (by rw [Int.one_mul]; exact h)
      omega
theorem text_wrong (m : PW) (s : List UInt8) (h : 255 < s.length) : m.text s = m.note 32 := by
  unfold PW.text; rw [if_pos h, put_note _ _ _ (by decide)]
theorem text_right (m : PW) (s : List UInt8) (h : ¬ 255 < s.length) : m.text s = m.put (bytOf s.length :: s) := by
  unfold PW.text; rw [if_neg h]
def part (k : Nat) (n : Int) (j : Nat) : List UInt8 := List.replicate (k - j) 0 ++ (be k n).drop (k - j)
theorem part_length (k : Nat) (n : Int) (j : Nat) (h : j ≤ k) : (part k n j).length = k := by simp [part, be_length]; try omega
theorem be_at (k : Nat) (n : Int) (i : Nat) (h : i < (be k n).length) : (be k n)[i] = bytOf (n / 256 ^ (k - 1 - i)) := by
  simp only [be, List.getElem_map, List.getElem_range, fdiv_two]
  rw [Int.pow_mul]; rfl
theorem part_set (k : Nat) (n : Int) (j : Nat) (h : j < k) : (part k n j).set (k - 1 - j) (bytOf (n / 256 ^ j)) = part k n (j + 1) := by
  apply List.ext_getElem (by rw [List.length_set, part_length _ _ _ (by omega), part_length _ _ _ (by omega)])
  intro i h1 h2
  rw [part_length _ _ _ (by omega)] at h2
  rw [List.getElem_set]
  simp only [part, List.getElem_append, List.length_replicate, List.getElem_replicate, List.getElem_drop]
  by_cases e : k - 1 - j = i
  · subst e
    rw [if_pos rfl, dif_neg (by omega), be_at]
    congr 2
    congr 1
    omega
  · rw [if_neg e]
    by_cases hi : i < k - j
    · rw [dif_pos hi, dif_pos (by omega)]
    · rw [dif_neg hi, dif_neg (by omega)]
      congr 1
      omega
theorem part_zero (k : Nat) (n : Int) : part k n 0 = List.replicate k 0 := by simp [part, be_length]
theorem part_all (k : Nat) (n : Int) : part k n k = be k n := by simp [part]
theorem pow256 (k : Nat) (h : k ≤ 4) : (256 : Int) ^ k ≤ 4294967296 ∧ 1 ≤ (256 : Int) ^ k := by
  match k, h with
  | 0, _ => decide
  | 1, _ => decide
  | 2, _ => decide
  | 3, _ => decide
  | 4, _ => decide
theorem byt_mod (n : Int) : byt (bytOf n) = .int .u8 (n % 256) := by simp only [byt, bytOf_nat]
end Go.Proofs.Ytecfagifkpgedaa
