/- Counting: each element has one controller. -/
import Derived.Test.YtdnpofigagdabaaTeleC
namespace Go.Proofs.Ytdnpofigagdabaa
open Go.RowKit Go.BK

def cnt (p : Nat → Bool) (n : Nat) : Nat := (idx p n).length
theorem cnt_succ (p : Nat → Bool) (n : Nat) : cnt p (n + 1) = cnt p n + (if p n = true then 1 else 0) := by
  unfold cnt
  by_cases h : p n = true
  · rw [idx_yes h, if_pos h]; simp
  · rw [idx_no (by simpa using h), if_neg h]; rfl
theorem cnt_le (p : Nat → Bool) (n : Nat) : cnt p n ≤ n := idx_le p n
theorem cnt_all {p : Nat → Bool} : ∀ n : Nat, (∀ i, i < n → p i = true) → cnt p n = n
  | 0, _ => rfl
  | n + 1, h => by rw [cnt_succ, cnt_all n fun i hi => h i (by omega), if_pos (h n (by omega))]
def four (p : Int → Nat → Bool) (n : Nat) : Nat := cnt (p 0) n + cnt (p 1) n + cnt (p 2) n + cnt (p 3) n
theorem four_eq {p : Int → Nat → Bool} {q : Nat → Bool} : ∀ n : Nat, (∀ i, i < n → (if p 0 i = true then 1 else 0) + (if p 1 i = true then 1 else 0) + (if p 2 i = true then 1 else 0) + (if p 3 i = true then 1 else 0) = (if q i = true then 1 else 0)) → four p n = cnt q n
  | 0, _ => rfl
  | n + 1, h => by
    have h1 := four_eq n fun i hi => h i (by omega)
    have h2 := h n (by omega)
    unfold four at h1 ⊢
    rw [cnt_succ, cnt_succ, cnt_succ, cnt_succ, cnt_succ]
    omega
theorem one4 (b : Bool) (x : Int) (h : 0 ≤ x ∧ x < 4) : (if (b && decide (x = 0)) = true then 1 else 0) + (if (b && decide (x = 1)) = true then 1 else 0) + (if (b && decide (x = 2)) = true then 1 else 0) + (if (b && decide (x = 3)) = true then 1 else 0) = (if b = true then 1 else 0) := by
  have hx : x = 0 ∨ x = 1 ∨ x = 2 ∨ x = 3 := by omega
  rcases hx with rfl | rfl | rfl | rfl <;> cases b <;> decide
end Go.Proofs.Ytdnpofigagdabaa
