/- What frames are: plain laws. No program in sight. -/
import Derived.Test.YtgcpoehchohleaaSealC
import Derived.Test.YtgcpoehchohleaaPackN
namespace Go.Proofs.Ytgcpoehchohleaa
open Go.RowKit Go.BK

theorem head_length (b : List UInt8) : (head b).length = b.length + 2 := by simp [head, be_length]; omega
theorem frame_length (b : List UInt8) : (frame b).length = b.length + 6 := by simp [frame, head_length, be_length]
theorem numOf_len (b : List UInt8) (h : b.length ≤ 1024) : numOf (be 2 (b.length : Int)) = b.length := numOf_be2 _ (by omega) (by omega)
theorem numOf_crc (x : BitVec 32) : numOf (be 4 (x.toNat : Int)) = x.toNat := numOf_be4 _ (by omega) (by have := x.isLt; omega)
theorem frame_take2 (b t : List UInt8) : (frame b ++ t).take 2 = be 2 (b.length : Int) := by
  unfold frame head
  rw [List.append_assoc, List.append_assoc, List.take_left' (be_length _ _)]
theorem cutF_frame (b t : List UInt8) (h : b.length ≤ 1024) : cutF (frame b ++ t) = ((b.length : Int) + 6, 0) := by
  have hl := frame_length b
  unfold cutF
  rw [frame_take2, numOf_len b h, if_neg (by rw [List.length_append]; omega), if_neg (by omega), if_neg (by rw [List.length_append]; omega)]
theorem bodyF_frame (b : List UInt8) (a : Int) : bodyF (frame b) a = (b, a + b.length + 6, 0) := by
  have hl := frame_length b
  have hh := head_length b
  have e1 : (frame b).take ((frame b).length - 4) = head b := by unfold frame; rw [List.take_left' (by rw [List.length_append, be_length]; omega)]
  have e2 : (frame b).drop ((frame b).length - 4) = be 4 ((crc (head b)).toNat : Int) := by unfold frame; rw [List.drop_left' (by rw [List.length_append, be_length]; omega)]
  have e3 : (head b).drop 2 = b := by unfold head; rw [List.drop_left' (be_length _ _)]
  unfold bodyF
  rw [e1, e2, numOf_crc, if_neg (by simp), e3, hl]
  simp only [Prod.mk.injEq, true_and, and_true]
  omega
theorem nextF_frame (p b t : List UInt8) (h : b.length ≤ 1024) : nextF (p ++ (frame b ++ t)) p.length = (b, (p.length : Int) + b.length + 6, 0) := by
  unfold nextF
  rw [if_neg (by rw [List.length_append]; omega), show ((p.length : Nat) : Int).toNat = p.length from rfl, List.drop_left' rfl, cutF_frame b t h]
  rw [if_neg (by simp)]
  simp only []
  rw [List.take_left' (by rw [frame_length]; omega), bodyF_frame]
theorem openF_frame (b : List UInt8) (h : b.length ≤ 1024) : openF (frame b) = (b, 0) := by
  have hc := cutF_frame b [] h
  have hn := nextF_frame [] b [] h
  rw [List.append_nil] at hc hn
  rw [List.nil_append] at hn
  unfold openF
  rw [hc, if_neg (by simp), if_neg (by rw [frame_length]; simp)]
  rw [show (([] : List UInt8).length : Int) = 0 from rfl] at hn
  rw [hn]
theorem openF_more (b t : List UInt8) (h : b.length ≤ 1024) (ht : t ≠ []) : openF (frame b ++ t) = ([], 3) := by
  have hl := frame_length b
  have : 0 < t.length := List.length_pos_iff.2 ht
  unfold openF
  rw [cutF_frame b t h, if_neg (by simp), if_pos (by rw [List.length_append]; simp only []; omega)]
theorem openF_cut (b : List UInt8) (n : Nat) (h : b.length ≤ 1024) (hn : n < (frame b).length) : openF ((frame b).take n) = ([], 1) := by
  have hl := frame_length b
  have hc : cutF ((frame b).take n) = (0, 1) := by
    unfold cutF
    by_cases h6 : n < 6
    · rw [if_pos (by rw [List.length_take]; omega)]
    · have h2 := frame_take2 b []
      rw [List.append_nil] at h2
      rw [if_neg (by rw [List.length_take]; omega), List.take_take, Nat.min_eq_left (by omega), h2, numOf_len b h, if_neg (by omega), if_pos (by rw [List.length_take]; omega)]
  unfold openF
  rw [hc, if_pos (by simp)]
theorem openF_err (l : List UInt8) (h : (openF l).2 ≠ 0) : (openF l).1 = [] := by
  unfold openF at h ⊢
  split
  · rfl
  · rename_i hc
    rw [if_neg hc] at h
    split
    · rfl
    · rename_i hb
      rw [if_neg hb] at h
      unfold nextF at h ⊢
      split
      · rfl
      · rename_i h1
        rw [if_neg h1] at h
        split
        · rfl
        · rename_i h2
          rw [if_neg h2] at h
          unfold bodyF at h ⊢
          split
          · rfl
          · rename_i h3
            rw [if_neg h3] at h
            exact absurd rfl h
theorem be4_of (t : List UInt8) (x : BitVec 32) (hl : t.length = 4) (h : numOf t = (x.toNat : Int)) : t = be 4 (x.toNat : Int) := by
  rw [← h]; exact (be_numOf t 4 (.inr (.inr rfl)) hl).symm
/-- What passes is the frame of its body. -/
theorem bodyF_ok {f : List UInt8} {a : Int} {x : List UInt8} {n : Int} (h6 : 6 ≤ f.length) (hn : numOf (f.take 2) = (f.length : Int) - 6) (h : bodyF f a = (x, n, 0)) : f = frame x ∧ n = a + f.length := by
  unfold bodyF at h
  split at h
  · cases h
  · rename_i hs
    have hs : numOf (f.drop (f.length - 4)) = ((crc (f.take (f.length - 4))).toNat : Int) := Classical.not_not.1 hs
    simp only [Prod.mk.injEq, and_true] at h
    obtain ⟨hx, hn2⟩ := h
    have hxl : x.length = f.length - 6 := by rw [← hx]; simp; omega
    have h4 := be4_of _ _ (by simp; omega) hs
    have h2 : (f.take (f.length - 4)).take 2 = be 2 (x.length : Int) := by
      rw [List.take_take, Nat.min_eq_left (by omega), hxl]
      have := be_numOf (f.take 2) 2 (.inr (.inl rfl)) (by simp; omega)
      rw [hn] at this
      rw [← this]
      congr 1
      omega
    have hh : f.take (f.length - 4) = head x := by
      unfold head
      rw [← h2, ← hx, List.take_append_drop]
    refine ⟨?_, hn2.symm⟩
    unfold frame
    rw [← hh, ← h4, List.take_append_drop]
theorem openF_ok {l x : List UInt8} (h : openF l = (x, 0)) : l = frame x ∧ x.length ≤ 1024 := by
  unfold openF at h
  split at h
  · rename_i hc; simp only [Prod.mk.injEq] at h; exact absurd h.2 hc
  · rename_i hc
    split at h
    · cases h
    · rename_i hb
      rcases cutF_cases l with hk | hk | ⟨k, hk, h6, hkl, h1030, hn⟩
      · rw [hk] at hc; simp at hc
      · rw [hk] at hc; simp at hc
      · rw [hk] at hb
        simp only [] at hb
        have hkl2 : k = l.length := by omega
        subst hkl2
        have hN : nextF l 0 = bodyF l 0 := by
          unfold nextF
          rw [if_neg (by omega), show (0 : Int).toNat = 0 from rfl, List.drop_zero, hk, if_neg (by simp)]
          simp only [Int.toNat_natCast, List.take_length]
        rw [hN] at h
        obtain ⟨hf, _⟩ := bodyF_ok (x := x) (n := (bodyF l 0).2.1) (a := 0) h6 hn (by rw [← (Prod.mk.inj h).1]; exact Prod.ext rfl (Prod.ext rfl (Prod.mk.inj h).2))
        refine ⟨hf, ?_⟩
        have := frame_length x
        rw [← hf] at this
        omega
/-- A frame's register is nought behind all of it. -/
theorem crc_frame_zero (m : List UInt8) (t : List UInt8) (ht : t.length = 4) : crc (m ++ t) = 0#32 ↔ t = be 4 ((crc m).toNat : Int) := by
  have hb : ∃ a b c d, be 4 ((crc m).toNat : Int) = [a, b, c, d] ∧ crcW a b c d = crc m := by
    refine ⟨_, _, _, _, rfl, ?_⟩
    have key : ∀ k : Nat, (bytOf ((((crc m).toNat : Nat) : Int).fdiv (2 ^ k))).toNat = (crc m).toNat / 2 ^ k % 256 := by
      intro k
      have h1 := bytOf_nat ((((crc m).toNat : Nat) : Int).fdiv (2 ^ k))
      rw [fdiv_two] at h1 ⊢
      rw [show ((((crc m).toNat : Nat) : Int) / 2 ^ k) = (((crc m).toNat / 2 ^ k : Nat) : Int) by rw [Int.natCast_ediv, Int.natCast_pow]; rfl] at h1 ⊢
      omega
    refine crcW_of _ _ _ _ _ (key 24) (key 16) (key 8) ?_
    have := key 0
    simpa using this
  obtain ⟨a, b, c, d, he, hw⟩ := hb
  match t, ht with
  | [a', b', c', d'], _ =>
    rw [he]
    unfold crc
    rw [crcL_append]
    rw [crc_four_zero]
    constructor
    · intro h
      have h2 : crcW a' b' c' d' = crcW a b c d := h.trans hw.symm
      obtain ⟨rfl, rfl, rfl, rfl⟩ := crcW_inj h2
      rfl
    · intro h
      simp only [List.cons.injEq, and_true] at h
      obtain ⟨rfl, rfl, rfl, rfl⟩ := h
      exact hw
/-- Up to four neighbouring bytes that are others, behind the head: refused for the sum. -/
theorem openF_spoilt (b p u v s : List UInt8) (h : b.length ≤ 1024) (hf : frame b = p ++ u ++ s) (hp : 2 ≤ p.length) (hu : u.length = 4) (hv : v.length = 4) (hne : u ≠ v) : openF (p ++ v ++ s) = ([], 4) := by
  have hl := frame_length b
  have hlen : (p ++ v ++ s).length = b.length + 6 := by
    have := congrArg List.length hf
    simp only [List.length_append] at this ⊢
    omega
  have ht2 : (p ++ v ++ s).take 2 = be 2 (b.length : Int) := by
    have h2 := frame_take2 b []
    rw [List.append_nil, hf, List.append_assoc, List.take_append_of_le_length hp] at h2
    rw [List.append_assoc, List.take_append_of_le_length hp]; exact h2
  obtain ⟨g, hg⟩ : ∃ g, p ++ v ++ s = g := ⟨_, rfl⟩
  rw [hg] at hlen ht2 ⊢
  have hc : cutF g = ((b.length : Int) + 6, 0) := by
    unfold cutF
    rw [ht2, numOf_len b h, if_neg (by omega), if_neg (by omega), if_neg (by omega)]
  have hsum : ¬ numOf (g.drop (g.length - 4)) = ((crc (g.take (g.length - 4))).toNat : Int) := by
    intro hs
    have h4 := be4_of _ _ (by simp; omega) hs
    have hz := (crc_frame_zero (g.take (g.length - 4)) (g.drop (g.length - 4)) (by simp; omega)).2 h4
    rw [List.take_append_drop, ← hg] at hz
    have hz0 : crc (frame b) = 0#32 := (crc_frame_zero (head b) _ (be_length _ _)).2 rfl
    rw [hf] at hz0
    exact hne (crc_burst _ p u v s hu hv (hz0.trans hz.symm))
  have hB : bodyF g 0 = ([], 0, 4) := by unfold bodyF; rw [if_pos hsum]
  have hN : nextF g 0 = ([], 0, 4) := by
    unfold nextF
    rw [if_neg (by omega), show (0 : Int).toNat = 0 from rfl, List.drop_zero, hc, if_neg (by simp)]
    simp only []
    rw [List.take_of_length_le (by omega), hB]
  unfold openF
  rw [hc, if_neg (by simp), if_neg (by rw [hlen]; simp), hN]
end Go.Proofs.Ytgcpoehchohleaa
