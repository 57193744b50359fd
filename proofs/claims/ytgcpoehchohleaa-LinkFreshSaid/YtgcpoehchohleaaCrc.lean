/- The sum of seal: a register of 32 bits, bit by bit; what it tells apart. No program in sight. -/
import Derived.Test.YtgcpoehchohleaaLibN
namespace Go.BK

def crcP : BitVec 32 := 79764919#32
def crcT (x : BitVec 32) : BitVec 32 := (x <<< 1) ^^^ (crcP &&& -(x >>> 31))
theorem shr31 (x : BitVec 32) : x >>> 31 = if x.msb then 1#32 else 0#32 := by
  apply BitVec.eq_of_toNat_eq
  have := x.isLt
  rw [BitVec.toNat_ushiftRight, Nat.shiftRight_eq_div_pow, BitVec.msb_eq_decide]
  by_cases h : 2 ^ (32 - 1) ≤ x.toNat
  · rw [if_pos (by simpa using h)]; show x.toNat / 2 ^ 31 = 1; omega
  · rw [if_neg (by simpa using h)]; show x.toNat / 2 ^ 31 = 0; omega
theorem crcT_eq (x : BitVec 32) : crcT x = (x <<< 1) ^^^ (if x.msb then crcP else 0#32) := by
  unfold crcT
  rw [shr31]
  cases x.msb <;> rfl
theorem crcT_xor (x y : BitVec 32) : crcT (x ^^^ y) = crcT x ^^^ crcT y := by
  rw [crcT_eq, crcT_eq, crcT_eq, BitVec.shiftLeft_xor_distrib, BitVec.msb_xor]
  cases x.msb <;> cases y.msb <;> simp only [Bool.false_eq_true, ↓reduceIte, BitVec.xor_zero, BitVec.zero_xor, Bool.xor_false, Bool.xor_true, Bool.false_xor, Bool.true_xor, Bool.not_false, Bool.not_true]
  · rw [BitVec.xor_assoc]
  · ac_rfl
  · rw [show x <<< 1 ^^^ crcP ^^^ (y <<< 1 ^^^ crcP) = (x <<< 1 ^^^ y <<< 1) ^^^ (crcP ^^^ crcP) by ac_rfl, BitVec.xor_self, BitVec.xor_zero]
theorem crcT_inj0 {x : BitVec 32} (h : crcT x = 0#32) : x = 0#32 := by
  rw [crcT_eq] at h
  have hlt := x.isLt
  cases hm : x.msb with
  | true =>
    rw [hm, if_pos rfl] at h
    have h1 : ((x <<< 1) ^^^ crcP).getLsbD 0 = true := by
      rw [BitVec.getLsbD_xor, BitVec.getLsbD_shiftLeft]; rfl
    rw [h] at h1
    cases h1
  | false =>
    rw [hm, if_neg (by decide), BitVec.xor_zero] at h
    have h1 := congrArg BitVec.toNat h
    rw [BitVec.msb_eq_decide] at hm
    have h2 := of_decide_eq_false hm
    rw [BitVec.toNat_shiftLeft, Nat.shiftLeft_eq] at h1
    apply BitVec.eq_of_toNat_eq
    simp at h1 h2 ⊢
    omega
def crcN : Nat → BitVec 32 → BitVec 32
  | 0, x => x
  | n + 1, x => crcN n (crcT x)
theorem crcN_xor (n : Nat) (x y : BitVec 32) : crcN n (x ^^^ y) = crcN n x ^^^ crcN n y := by
  induction n generalizing x y with
  | zero => rfl
  | succ n ih => simp only [crcN, crcT_xor, ih]
theorem crcN_zero (n : Nat) : crcN n 0#32 = 0#32 := by
  induction n with
  | zero => rfl
  | succ n ih => simp only [crcN]; rw [show crcT 0#32 = 0#32 by decide]; exact ih
theorem crcN_inj0 {n : Nat} {x : BitVec 32} (h : crcN n x = 0#32) : x = 0#32 := by
  induction n generalizing x with
  | zero => exact h
  | succ n ih => exact crcT_inj0 (ih h)
theorem crcN_add (m n : Nat) (x : BitVec 32) : crcN (m + n) x = crcN n (crcN m x) := by
  induction m generalizing x with
  | zero => rw [Nat.zero_add]; rfl
  | succ m ih => rw [Nat.succ_add]; exact ih _
theorem crcN_shift (n : Nat) (x : BitVec 32) (h : x.toNat < 2 ^ (32 - n)) (hn : n ≤ 32) : crcN n x = x <<< n := by
  induction n generalizing x with
  | zero => simp [crcN]
  | succ n ih =>
    simp only [crcN]
    have hp : (2 : Nat) ^ (32 - n) = 2 * 2 ^ (32 - (n + 1)) := by rw [show 32 - n = (32 - (n + 1)) + 1 by omega, Nat.pow_succ]; omega
    have hle : (2 : Nat) ^ (32 - (n + 1)) ≤ 2 ^ 31 := Nat.pow_le_pow_right (by decide) (by omega)
    have hm : x.msb = false := by rw [BitVec.msb_eq_decide]; apply decide_eq_false; omega
    rw [crcT_eq, hm, if_neg (by decide), BitVec.xor_zero, ih _ ?_ (by omega), ← BitVec.shiftLeft_add, Nat.add_comm]
    · rw [BitVec.toNat_shiftLeft, Nat.shiftLeft_eq, Nat.mod_eq_of_lt (by omega)]; omega
/-- A byte at the register's top. -/
def crcU (c : UInt8) : BitVec 32 := BitVec.ofNat 32 c.toNat
def crcB (x : BitVec 32) (c : UInt8) : BitVec 32 := crcN 8 (x ^^^ crcU c <<< 24)
def crcL (x : BitVec 32) (l : List UInt8) : BitVec 32 := l.foldl crcB x
def crc (l : List UInt8) : BitVec 32 := crcL 4294967295#32 l
theorem crcU_nat (c : UInt8) : (crcU c).toNat = c.toNat := by
  have := c.toNat_lt
  rw [crcU, BitVec.toNat_ofNat]; omega
theorem crcU_bit (c : UInt8) (i : Nat) : (crcU c).getLsbD i = c.toNat.testBit i := by
  rw [← BitVec.testBit_toNat, crcU_nat]
theorem bit_hi (c : UInt8) {i : Nat} (h : 8 ≤ i) : c.toNat.testBit i = false := by
  apply Nat.testBit_lt_two_pow
  have := c.toNat_lt
  exact Nat.lt_of_lt_of_le this (Nat.pow_le_pow_right (by decide) h : 2 ^ 8 ≤ 2 ^ i)
theorem crcU_xor (a b : UInt8) : crcU (a ^^^ b) = crcU a ^^^ crcU b := by
  apply BitVec.eq_of_getLsbD_eq
  intro i _
  rw [BitVec.getLsbD_xor, crcU_bit, crcU_bit, crcU_bit, UInt8.toNat_xor, Nat.testBit_xor]
theorem crcB_xor (x y : BitVec 32) (a b : UInt8) : crcB (x ^^^ y) (a ^^^ b) = crcB x a ^^^ crcB y b := by
  unfold crcB
  rw [crcU_xor, BitVec.shiftLeft_xor_distrib, ← crcN_xor]
  generalize crcU a <<< 24 = p
  generalize crcU b <<< 24 = q
  exact congrArg (crcN 8) (by ac_rfl)
theorem crcL_xor : ∀ (a b : List UInt8) (x y : BitVec 32), a.length = b.length → crcL (x ^^^ y) (List.zipWith (· ^^^ ·) a b) = crcL x a ^^^ crcL y b := by
  intro a
  induction a with
  | nil => intro b x y h; cases b with | nil => rfl | cons c r => simp at h
  | cons c r ih =>
    intro b x y h
    cases b with
    | nil => simp at h
    | cons d s =>
      have h2 := ih s (crcB x c) (crcB y d) (by simpa using h)
      unfold crcL at h2 ⊢
      rw [List.zipWith_cons_cons, List.foldl_cons, List.foldl_cons, List.foldl_cons, crcB_xor]
      exact h2
theorem crcL_append (x : BitVec 32) (a b : List UInt8) : crcL x (a ++ b) = crcL (crcL x a) b := by simp [crcL, List.foldl_append]
theorem crcU_zero : crcU 0 = 0#32 := by decide
theorem crcL_zeros (n : Nat) (x : BitVec 32) : crcL x (List.replicate n 0) = crcN (8 * n) x := by
  induction n generalizing x with
  | zero => rfl
  | succ n ih =>
    have h2 := ih (crcN 8 x)
    unfold crcL at h2 ⊢
    rw [List.replicate_succ, List.foldl_cons]
    have : crcB x 0 = crcN 8 x := by unfold crcB; rw [crcU_zero, BitVec.zero_shiftLeft, BitVec.xor_zero]
    rw [this, show 8 * (n + 1) = 8 + 8 * n by omega, crcN_add]
    exact h2
/-- Four bytes as a word. -/
def crcW (a b c d : UInt8) : BitVec 32 := crcU a <<< 24 ^^^ crcU b <<< 16 ^^^ crcU c <<< 8 ^^^ crcU d
theorem crcL_four (x : BitVec 32) (a b c d : UInt8) : crcL x [a, b, c, d] = crcN 32 (x ^^^ crcW a b c d) := by
  have up : ∀ (e : UInt8) (k : Nat), k ≤ 16 → crcN 8 (crcU e <<< k) = crcU e <<< (k + 8) := by
    intro e k hk
    rw [crcN_shift 8 _ ?_ (by decide), ← BitVec.shiftLeft_add]
    have := e.toNat_lt
    rw [BitVec.toNat_shiftLeft, crcU_nat, Nat.shiftLeft_eq]
    have h1 : (2 : Nat) ^ k ≤ 2 ^ 16 := Nat.pow_le_pow_right (by decide) hk
    have h2 : e.toNat * 2 ^ k ≤ 255 * 2 ^ 16 := Nat.mul_le_mul (by omega) h1
    rw [Nat.mod_eq_of_lt (by omega)]
    omega
  have b1 : crcU b <<< 24 = crcN 8 (crcU b <<< 16) := (up b 16 (by decide)).symm
  have c1 : crcU c <<< 24 = crcN 8 (crcN 8 (crcU c <<< 8)) := by rw [up c 8 (by decide), up c 16 (by decide)]
  have d1 : crcU d <<< 24 = crcN 8 (crcN 8 (crcN 8 (crcU d))) := by
    have := up d 0 (by decide)
    rw [BitVec.shiftLeft_zero] at this
    rw [this, up d 8 (by decide), up d 16 (by decide)]
  simp only [crcL, List.foldl_cons, List.foldl_nil, crcB]
  have e32 : ∀ y, crcN 32 y = crcN 8 (crcN 8 (crcN 8 (crcN 8 y))) := fun y => by rw [← crcN_add, ← crcN_add, ← crcN_add]
  rw [e32, b1, ← crcN_xor, c1, ← crcN_xor, ← crcN_xor, d1, ← crcN_xor, ← crcN_xor, ← crcN_xor]
  refine congrArg (fun y => crcN 8 (crcN 8 (crcN 8 (crcN 8 y)))) ?_
  unfold crcW
  generalize crcU a <<< 24 = p
  generalize crcU b <<< 16 = q
  generalize crcU c <<< 8 = r
  generalize crcU d = t
  ac_rfl
theorem crcW_bits (a b c d : UInt8) (i : Nat) : (crcW a b c d).getLsbD i = (decide (i < 32) && ((!decide (i < 24) && a.toNat.testBit (i - 24)) ^^ (!decide (i < 16) && b.toNat.testBit (i - 16)) ^^ (!decide (i < 8) && c.toNat.testBit (i - 8)) ^^ d.toNat.testBit i)) := by
  unfold crcW
  simp only [BitVec.getLsbD_xor, BitVec.getLsbD_shiftLeft, crcU_bit]
  by_cases h : i < 32
  · simp [h]
  · have := bit_hi d (i := i) (by omega)
    simp [h, this]
theorem crcW_inj {a b c d a' b' c' d' : UInt8} (h : crcW a b c d = crcW a' b' c' d') : a = a' ∧ b = b' ∧ c = c' ∧ d = d' := by
  have hb : ∀ i, i < 32 → (crcW a b c d).getLsbD i = (crcW a' b' c' d').getLsbD i := fun i _ => by rw [h]
  have key : ∀ e e' : UInt8, (∀ j, j < 8 → e.toNat.testBit j = e'.toNat.testBit j) → e = e' := by
    intro e e' he
    apply UInt8.toNat_inj.1
    apply Nat.eq_of_testBit_eq
    intro j
    by_cases hj : j < 8
    · exact he j hj
    · rw [bit_hi e (by omega), bit_hi e' (by omega)]
  refine ⟨key _ _ fun j hj => ?_, key _ _ fun j hj => ?_, key _ _ fun j hj => ?_, key _ _ fun j hj => ?_⟩
  · have := hb (j + 24) (by omega)
    rw [crcW_bits, crcW_bits] at this
    simpa [show j + 24 < 32 by omega, bit_hi b (i := j + 8) (by omega), bit_hi b' (i := j + 8) (by omega), bit_hi c (i := j + 16) (by omega), bit_hi c' (i := j + 16) (by omega), bit_hi d (i := j + 24) (by omega), bit_hi d' (i := j + 24) (by omega), show ¬ j + 24 < 16 by omega, show ¬ j + 24 < 8 by omega, show ¬ j + 24 < 24 by omega] using this
  · have := hb (j + 16) (by omega)
    rw [crcW_bits, crcW_bits] at this
    simpa [show j + 16 < 32 by omega, show j + 16 < 24 by omega, bit_hi c (i := j + 8) (by omega), bit_hi c' (i := j + 8) (by omega), bit_hi d (i := j + 16) (by omega), bit_hi d' (i := j + 16) (by omega), show ¬ j + 16 < 8 by omega, show ¬ j + 16 < 16 by omega] using this
  · have := hb (j + 8) (by omega)
    rw [crcW_bits, crcW_bits] at this
    simpa [show j + 8 < 32 by omega, show j + 8 < 24 by omega, show j + 8 < 16 by omega, show ¬ j + 8 < 8 by omega, bit_hi d (i := j + 8) (by omega), bit_hi d' (i := j + 8) (by omega)] using this
  · have := hb j (by omega)
    rw [crcW_bits, crcW_bits] at this
    simpa [show j < 32 by omega, show j < 24 by omega, show j < 16 by omega, hj] using this
/-- The bytes of a register, from the highest. -/
theorem crcW_of (x : BitVec 32) (a b c d : UInt8) (ha : a.toNat = x.toNat / 2 ^ 24 % 256) (hb : b.toNat = x.toNat / 2 ^ 16 % 256) (hc : c.toNat = x.toNat / 2 ^ 8 % 256) (hd : d.toNat = x.toNat % 256) : crcW a b c d = x := by
  apply BitVec.eq_of_getLsbD_eq
  intro i hi
  have t : ∀ k j, (x.toNat / 2 ^ k % 256).testBit j = (decide (j < 8) && x.getLsbD (k + j)) := by
    intro k j
    rw [show (256 : Nat) = 2 ^ 8 from rfl, Nat.testBit_mod_two_pow, Nat.testBit_div_two_pow, ← BitVec.testBit_toNat, Nat.add_comm]
  have t0 : ∀ j, (x.toNat % 256).testBit j = (decide (j < 8) && x.getLsbD j) := by
    intro j
    rw [show (256 : Nat) = 2 ^ 8 from rfl, Nat.testBit_mod_two_pow, ← BitVec.testBit_toNat]
  rw [crcW_bits, ha, hb, hc, hd, t, t, t, t0]
  by_cases h8 : i < 8
  · simp [hi, h8, show i < 24 by omega, show i < 16 by omega]
  · by_cases h16 : i < 16
    · simp [hi, h8, h16, show i < 24 by omega, show i - 8 < 8 by omega, show 8 + (i - 8) = i by omega]
    · by_cases h24 : i < 24
      · simp [hi, h8, h16, h24, show ¬ i - 8 < 8 by omega, show i - 16 < 8 by omega, show 16 + (i - 16) = i by omega]
      · simp [hi, h8, h16, h24, show ¬ i - 8 < 8 by omega, show ¬ i - 16 < 8 by omega, show i - 24 < 8 by omega, show 24 + (i - 24) = i by omega]
/-- Four neighbouring bytes that are others are told apart. -/
theorem crc_burst (x : BitVec 32) (p u v s : List UInt8) (hu : u.length = 4) (hv : v.length = 4) (h : crcL x (p ++ u ++ s) = crcL x (p ++ v ++ s)) : u = v := by
  match u, hu, v, hv with
  | [a, b, c, d], _, [a', b', c', d'], _ =>
    rw [crcL_append, crcL_append, crcL_append, crcL_append] at h
    have inj : ∀ (s : List UInt8) (y z : BitVec 32), crcL y s = crcL z s → y = z := by
      intro s
      induction s with
      | nil => exact fun y z h => h
      | cons e r ih =>
        intro y z h
        have := ih _ _ h
        unfold crcB at this
        generalize crcU e <<< 24 = k at this
        have h0 : crcN 8 ((y ^^^ k) ^^^ (z ^^^ k)) = 0#32 := by rw [crcN_xor, this, BitVec.xor_self]
        have h1 := crcN_inj0 h0
        rw [show (y ^^^ k) ^^^ (z ^^^ k) = (y ^^^ z) ^^^ (k ^^^ k) by ac_rfl, BitVec.xor_self, BitVec.xor_zero] at h1
        have := congrArg (· ^^^ z) h1
        simpa [BitVec.xor_assoc] using this
    have h := inj _ _ _ h
    rw [crcL_four, crcL_four] at h
    clear inj
    obtain ⟨W, hW⟩ : ∃ W, crcW a b c d = W := ⟨_, rfl⟩
    obtain ⟨W', hW'⟩ : ∃ W, crcW a' b' c' d' = W := ⟨_, rfl⟩
    generalize crcL x p = X at h
    rw [hW, hW'] at h
    have h0 : crcN 32 ((X ^^^ W) ^^^ (X ^^^ W')) = 0#32 := by rw [crcN_xor, h, BitVec.xor_self]
    have h1 := crcN_inj0 h0
    rw [show (X ^^^ W) ^^^ (X ^^^ W') = (W ^^^ W') ^^^ (X ^^^ X) by ac_rfl, BitVec.xor_self, BitVec.xor_zero] at h1
    have h2 : W = W' := by
      have := congrArg (· ^^^ W') h1
      simpa [BitVec.xor_assoc] using this
    rw [← hW, ← hW'] at h2
    obtain ⟨rfl, rfl, rfl, rfl⟩ := crcW_inj h2
    rfl
/-- Behind its own four bytes a register is nought, and behind no others. -/
theorem crc_four_zero (x : BitVec 32) (a b c d : UInt8) : crcL x [a, b, c, d] = 0#32 ↔ crcW a b c d = x := by
  rw [crcL_four]
  constructor
  · intro h
    have h1 := crcN_inj0 h
    have := congrArg (x ^^^ ·) h1
    simpa [← BitVec.xor_assoc] using this
  · intro h; rw [h, BitVec.xor_self, crcN_zero]
end Go.BK
