/- The law of only: what is read to the end of a text is written as just this text. -/
import Derived.Test.YtgcpoehchohleaaPackK
namespace Go.Proofs.Ytgcpoehchohleaa
open Go.RowKit Go.BK

theorem bytOf_eq (x : Int) (a : UInt8) (h : x % 256 = a.toNat) : bytOf x = a := by
  apply UInt8.toNat_inj.1
  have := bytOf_nat x
  omega
theorem be_numOf (t : List UInt8) (k : Nat) (hk : k = 1 ∨ k = 2 ∨ k = 4) (h : t.length = k) : be k (numOf t) = t := by
  rcases hk with rfl | rfl | rfl
  · match t, h with
    | [a], _ =>
      have := a.toNat_lt
      simp only [be, List.range_succ, List.range_zero, List.nil_append, List.map_append, List.map_cons, List.map_nil, List.cons_append, numOf, List.foldl_cons, List.foldl_nil, fdiv_two]
      congr 1
      exact bytOf_eq _ _ (by omega)
  · match t, h with
    | [a, b], _ =>
      have := a.toNat_lt
      have := b.toNat_lt
      simp only [be, List.range_succ, List.range_zero, List.nil_append, List.map_append, List.map_cons, List.map_nil, List.cons_append, numOf, List.foldl_cons, List.foldl_nil, fdiv_two]
      rw [bytOf_eq _ a (by omega), bytOf_eq _ b (by omega)]
  · match t, h with
    | [a, b, c, d], _ =>
      have := a.toNat_lt
      have := b.toNat_lt
      have := c.toNat_lt
      have := d.toNat_lt
      simp only [be, List.range_succ, List.range_zero, List.nil_append, List.map_append, List.map_cons, List.map_nil, List.cons_append, numOf, List.foldl_cons, List.foldl_nil, fdiv_two]
      rw [bytOf_eq _ a (by omega), bytOf_eq _ b (by omega), bytOf_eq _ c (by omega), bytOf_eq _ d (by omega)]
def J (l : List UInt8) (m : PR) (W : PW) : Prop := (m.e = 0 ∨ m.e = 1) ∧ (∀ r, W.fits r) ∧ W.lim = l.length ∧ m.s.length ≤ 140737488355328 ∧ (m.e = 0 → W.e = 0 ∧ W.out ++ m.s = l)
theorem num_right (k : Nat) (W : PW) (x : Int) (h0 : 0 ≤ x) (h1 : x < 256 ^ k) : W.num k x = W.put (be k x) := by
  unfold PW.num
  rw [if_neg]
  intro h
  rcases h with h | h
  · omega
  · apply h
    rw [fdiv_two]
    refine Int.ediv_eq_zero_of_lt h0 ?_
    rw [Int.pow_mul]
    exact h1
theorem only_num {l : List UInt8} {m : PR} {W : PW} (k : Nat) (hk : k = 1 ∨ k = 2 ∨ k = 4) (h : J l m W) : J l (m.num k).2 (W.num k (m.num k).1) := by
  obtain ⟨he, hf, hl, hs, hj⟩ := h
  have hf2 : ∀ r, (W.num k (m.num k).1).fits r := fun r => (hf _).num
  have hl2 : (W.num k (m.num k).1).lim = l.length := by rw [PW.num_lim]; exact hl
  by_cases hbad : m.e = 1 ∨ m.s.length < k
  · rw [num_bad m k hbad he] at hf2 hl2 ⊢
    exact ⟨.inr rfl, hf2, hl2, hs, fun h => by simp at h⟩
  · have h0 : m.e = 0 := he.resolve_right fun h => hbad (.inl h)
    have hlen : k ≤ m.s.length := by
      by_cases h : k ≤ m.s.length
      · exact h
      · exact absurd (.inr (by omega)) hbad
    obtain ⟨hw, ho⟩ := hj h0
    rw [num_good m k h0 hlen] at hf2 hl2 ⊢
    have htl : (m.s.take k).length = k := by simp; omega
    have hbd := numOf_bd (m.s.take k)
    rw [htl] at hbd
    refine ⟨.inl rfl, hf2, hl2, by simp only [List.length_drop]; omega, fun _ => ?_⟩
    simp only [num_right k W _ hbd.1 hbd.2, be_numOf _ k hk htl]
    have hsum : W.out.length + m.s.length = l.length := by rw [← ho]; simp
    unfold PW.put
    rw [if_neg (by rw [htl, hl]; omega), if_pos hw]
    exact ⟨hw, by simp only [PW.add]; rw [List.append_assoc, List.take_append_drop]; exact ho⟩
theorem only_text {l : List UInt8} {m : PR} {W : PW} (h : J l m W) : J l m.text.2 (W.text m.text.1) ∧ m.text.1.length ≤ 255 := by
  obtain ⟨he, hf, hl, hs, hj⟩ := h
  have hf2 : ∀ r, (W.text m.text.1).fits r := fun r => (hf _).text
  have hl2 : (W.text m.text.1).lim = l.length := by rw [PW.text_lim]; exact hl
  by_cases hbad : m.e = 1 ∨ m.s = [] ∨ m.s.length < 1 + (m.s.getD 0 0).toNat
  · rw [text_bad m hbad he] at hf2 hl2 ⊢
    exact ⟨⟨.inr rfl, hf2, hl2, hs, fun h => by simp at h⟩, by simp⟩
  · have h0 : m.e = 0 := he.resolve_right fun h => hbad (.inl h)
    have hne : ¬ m.s = [] := fun h => hbad (.inr (.inl h))
    have hlen : ¬ m.s.length < 1 + (m.s.getD 0 0).toNat := fun h => hbad (.inr (.inr h))
    obtain ⟨hw, ho⟩ := hj h0
    rw [text_good m h0 hne hlen] at hf2 hl2 ⊢
    obtain ⟨c, r, hcr⟩ : ∃ c r, m.s = c :: r := by
      cases hm : m.s with
      | nil => exact absurd hm hne
      | cons c r => exact ⟨c, r, rfl⟩
    rw [hcr] at hf2 hl2 hlen ho hs ⊢
    have hc := c.toNat_lt
    simp only [List.getD_cons_zero, List.drop_succ_cons, List.drop_zero, List.length_cons] at hf2 hl2 hlen hs ⊢
    have htl : (r.take c.toNat).length = c.toNat := by simp; omega
    refine ⟨⟨.inl rfl, hf2, hl2, by rw [Nat.add_comm]; simp only [List.drop_succ_cons, List.length_drop]; omega, fun _ => ?_⟩, by omega⟩
    have hsum : W.out.length + (r.length + 1) = l.length := by rw [← ho]; simp
    have hb : bytOf ((r.take c.toNat).length : Int) = c := bytOf_eq _ _ (by rw [htl]; omega)
    simp only [PW.text, hb]
    rw [if_neg (by omega)]
    unfold PW.put
    rw [if_neg (by simp only [List.length_cons]; rw [htl, hl]; omega), if_pos hw]
    refine ⟨hw, ?_⟩
    simp only [PW.add]
    rw [Nat.add_comm 1, List.drop_succ_cons, List.append_assoc, List.cons_append, List.take_append_drop]
    exact ho
end Go.Proofs.Ytgcpoehchohleaa
