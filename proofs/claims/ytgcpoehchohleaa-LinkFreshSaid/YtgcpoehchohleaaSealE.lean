/- What the document's seal does. -/
import Derived.Test.YtgcpoehchohleaaSealD
namespace Go.Proofs.Ytgcpoehchohleaa
open Go.RowKit Go.BK

theorem of64 (n : Nat) : BitVec.ofInt IntKind.i64.bits (n : Int) = BitVec.ofNat 64 n := by
  show BitVec.ofInt 64 (n : Int) = _
  rw [BitVec.ofInt_natCast]
theorem xor64 (a b : Nat) (ha : a < 4294967296) (hb : b < 4294967296) : IntKind.i64.wrap ↑(BitVec.ofInt IntKind.i64.bits (a : Int) ^^^ BitVec.ofInt IntKind.i64.bits (b : Int)).toNat = ((a ^^^ b : Nat) : Int) := by
  rw [of64, of64]
  show IntKind.i64.wrap ((BitVec.ofNat 64 a ^^^ BitVec.ofNat 64 b).toNat : Int) = _
  rw [BitVec.toNat_xor, BitVec.toNat_ofNat, BitVec.toNat_ofNat, Nat.mod_eq_of_lt (by omega), Nat.mod_eq_of_lt (by omega)]
  have : a ^^^ b < 2 ^ 32 := Nat.xor_lt_two_pow ha hb
  exact wrap_in IntKind.i64 (i64_in (by omega) (by omega))
theorem rsum_in (x : BitVec 32) (c : UInt8) : IntKind.i64.wrap ↑(BitVec.ofInt IntKind.i64.bits (x.toNat : Int) ^^^ BitVec.ofInt IntKind.i64.bits ((c.toNat : Int) * 16777216)).toNat = ((x ^^^ crcU c <<< 24).toNat : Int) := by
  have hc := c.toNat_lt
  have hx := x.isLt
  rw [show (c.toNat : Int) * 16777216 = ((c.toNat * 16777216 : Nat) : Int) by omega, xor64 _ _ hx (by omega), BitVec.toNat_xor, BitVec.toNat_shiftLeft, crcU_nat, Nat.shiftLeft_eq, Nat.mod_eq_of_lt (by omega)]
theorem rsum_lo (y : BitVec 32) (h : ¬ (y.toNat : Int) * 2 ≥ 4294967296) : (y.toNat : Int) * 2 = ((crcT y).toNat : Int) := by
  have hm : y.msb = false := by rw [BitVec.msb_eq_decide]; apply decide_eq_false; omega
  rw [crcT_eq, hm, if_neg (by decide), BitVec.xor_zero, BitVec.toNat_shiftLeft, Nat.shiftLeft_eq, Nat.mod_eq_of_lt (by omega)]
  omega
theorem rsum_hi (y : BitVec 32) (h : (y.toNat : Int) * 2 ≥ 4294967296) : IntKind.i64.wrap ↑(BitVec.ofInt IntKind.i64.bits ((y.toNat : Int) * 2 - 4294967296) ^^^ BitVec.ofInt IntKind.i64.bits 79764919).toNat = ((crcT y).toNat : Int) := by
  have hy := y.isLt
  have hm : y.msb = true := by rw [BitVec.msb_eq_decide]; apply decide_eq_true; omega
  rw [show (y.toNat : Int) * 2 - 4294967296 = ((y.toNat * 2 - 4294967296 : Nat) : Int) by omega, show (79764919 : Int) = ((79764919 : Nat) : Int) from rfl, xor64 _ _ (by omega) (by omega)]
  rw [crcT_eq, hm, if_pos rfl, BitVec.toNat_xor, BitVec.toNat_shiftLeft, Nat.shiftLeft_eq]
  rw [show y.toNat * 2 ^ 1 % 2 ^ 32 = y.toNat * 2 - 4294967296 by omega]
  rfl
theorem rsum_spec (l : List UInt8) (w : World) (S : BSet) (hS : (sepL []).sat S w) (hl : l.length ≤ 1152921504606846976) :
    Tri Try.prog 54 #[str l] w S fun u A => u = i64 ((crc l).toNat : Int) ∧ A = [] := by
  refine Tri.enter (l := [str l]) Try.func54 rfl Try.ntmps54 rfl [(0, str l)] (subA rfl) hS ?_
  repeat first
    | (apply WL.q; exact rfl; exact rfl; exact rfl; (first | (apply EvW.move; exact rfl) | (apply EvW.assign; exact rfl) | (apply EvW.lenS; exact rfl; exact UndC.eq) | (apply EvW.cmpT; exact rfl; exact rfl; exact rfl; omega) | (apply EvW.cmpF; exact rfl; exact rfl; exact rfl; omega) | (apply EvW.cmp; exact rfl; exact rfl; exact rfl) | (apply EvW.arN; exact rfl; exact rfl; exact rfl; refine i64_in ?_ ?_ <;> omega) | (apply EvW.ar; exact rfl; exact rfl; exact rfl) | (apply EvW.convN; exact rfl; exact UndC.eq; exact UndC.eq; refine i64_in ?_ ?_ <;> omega) | (apply EvW.convW; exact rfl; exact UndC.eq; exact UndC.eq; exact of_decide_eq_true rfl) | (apply EvW.conv; exact rfl; exact UndC.eq; exact UndC.eq) | (apply EvW.index; exact rfl; exact rfl; exact UndC.eq; omega; omega)))
    | refine WC.seq ?_ | refine WC.region ?_ | refine WL.nil ?_ | refine WE.next ?_ | refine WC.block ?_ | refine WC.skip ?_ | refine WC.exit ?_ | refine WE.pass ?_ | refine WE.hit ?_ | refine WE.miss rfl ?_ | refine WE.out ?_ | refine WC.condT rfl ?_ | refine WC.condF rfl ?_ | refine WC.ret ?_ | refine WE.passRet ?_ | refine WE.outRet ?_ | refine WL.wanted rfl rfl rfl ?_
  refine WC.loopK (σ := Nat) [0] (fun s => [(4, i64 s), (3, i64 ((crc (l.take s)).toNat : Int))]) (fun s => []) (fun s => s ≤ l.length) (fun s => l.length - s) 0 (by (focus ((repeat (first | exact Pick.nil | (apply Pick.cons; exact rfl))); done))) (by (focus ((repeat (first | exact trivial | (refine ⟨rfl, ?_⟩))); done))) (fun _ h => h.keep (by (focus ((repeat (first | exact TakeL.nil | apply TakeL.cons | exact Take.head | apply Take.tail)); done)))) (Nat.zero_le _) (fun s hs => ?_)
  obtain ⟨i, rfl⟩ : ∃ q, q = s := ⟨s, rfl⟩
  simp only [List.cons_append, List.nil_append] at hs ⊢
  by_cases hlt : (i : Int) < l.length
  · have hsn := take_snoc l i (by omega)
    have hcb := (l.getD ((i : Nat) : Int).toNat 0).toNat_lt
    repeat first
      | (apply WL.q; exact rfl; exact rfl; exact rfl; (first | (apply EvW.move; exact rfl) | (apply EvW.assign; exact rfl) | (apply EvW.lenS; exact rfl; exact UndC.eq) | (apply EvW.cmpT; exact rfl; exact rfl; exact rfl; omega) | (apply EvW.cmpF; exact rfl; exact rfl; exact rfl; omega) | (apply EvW.cmp; exact rfl; exact rfl; exact rfl) | (apply EvW.arN; exact rfl; exact rfl; exact rfl; refine i64_in ?_ ?_ <;> omega) | (apply EvW.ar; exact rfl; exact rfl; exact rfl) | (apply EvW.convN; exact rfl; exact UndC.eq; exact UndC.eq; refine i64_in ?_ ?_ <;> omega) | (apply EvW.convW; exact rfl; exact UndC.eq; exact UndC.eq; exact of_decide_eq_true rfl) | (apply EvW.conv; exact rfl; exact UndC.eq; exact UndC.eq) | (apply EvW.index; exact rfl; exact rfl; exact UndC.eq; omega; omega)))
      | refine WC.seq ?_ | refine WC.region ?_ | refine WL.nil ?_ | refine WE.next ?_ | refine WC.block ?_ | refine WC.skip ?_ | refine WC.exit ?_ | refine WE.pass ?_ | refine WE.hit ?_ | refine WE.miss rfl ?_ | refine WE.out ?_ | refine WC.condT rfl ?_ | refine WC.condF rfl ?_ | refine WC.ret ?_ | refine WE.passRet ?_ | refine WE.outRet ?_ | refine WL.wanted rfl rfl rfl ?_
    rw [rsum_in]
    refine WC.loopK (σ := Nat) [0, 4] (fun s => [(5, i64 s), (3, i64 ((crcN s (crc (l.take i) ^^^ crcU (l.getD i 0) <<< 24)).toNat : Int))]) (fun s => []) (fun s => s ≤ 8) (fun s => 8 - s) 0 (by (focus ((repeat (first | exact Pick.nil | (apply Pick.cons; exact rfl))); done))) (by (focus ((repeat (first | exact trivial | (refine ⟨rfl, ?_⟩))); done))) (fun _ h => h.keep (by (focus ((repeat (first | exact TakeL.nil | apply TakeL.cons | exact Take.head | apply Take.tail)); done)))) (Nat.zero_le _) (fun s hs => ?_)
    obtain ⟨k, rfl⟩ : ∃ q, q = s := ⟨s, rfl⟩
    simp only [List.cons_append, List.nil_append] at hs ⊢
    by_cases hk : (k : Int) < 8
    · generalize hy : crcN k (crc (l.take i) ^^^ crcU (l.getD i 0) <<< 24) = y
      have hy2 := y.isLt
      have hsu : crcN (k + 1) (crc (l.take i) ^^^ crcU (l.getD i 0) <<< 24) = crcT y := by rw [crcN_succ, hy]
      by_cases h2 : (y.toNat : Int) * 2 ≥ 4294967296
      · repeat first
          | (apply WL.q; exact rfl; exact rfl; exact rfl; (first | (apply EvW.move; exact rfl) | (apply EvW.assign; exact rfl) | (apply EvW.lenS; exact rfl; exact UndC.eq) | (apply EvW.cmpT; exact rfl; exact rfl; exact rfl; omega) | (apply EvW.cmpF; exact rfl; exact rfl; exact rfl; omega) | (apply EvW.cmp; exact rfl; exact rfl; exact rfl) | (apply EvW.arN; exact rfl; exact rfl; exact rfl; refine i64_in ?_ ?_ <;> omega) | (apply EvW.ar; exact rfl; exact rfl; exact rfl) | (apply EvW.convN; exact rfl; exact UndC.eq; exact UndC.eq; refine i64_in ?_ ?_ <;> omega) | (apply EvW.convW; exact rfl; exact UndC.eq; exact UndC.eq; exact of_decide_eq_true rfl) | (apply EvW.conv; exact rfl; exact UndC.eq; exact UndC.eq) | (apply EvW.index; exact rfl; exact rfl; exact UndC.eq; omega; omega)))
          | refine WC.seq ?_ | refine WC.region ?_ | refine WL.nil ?_ | refine WE.next ?_ | refine WC.block ?_ | refine WC.skip ?_ | refine WC.exit ?_ | refine WE.pass ?_ | refine WE.hit ?_ | refine WE.miss rfl ?_ | refine WE.out ?_ | refine WC.condT rfl ?_ | refine WC.condF rfl ?_ | refine WC.ret ?_ | refine WE.passRet ?_ | refine WE.outRet ?_ | refine WL.wanted rfl rfl rfl ?_
        rw [rsum_hi y h2, ← hsu]
        exact WE.again (s := k) (k + 1) (by omega) (by (focus ((repeat (first | exact trivial | (refine ⟨rfl, ?_⟩))); done))) (fun _ h => (by (try simp only []); exact h.keep (by (focus ((repeat (first | exact TakeL.nil | apply TakeL.cons | exact Take.head | apply Take.tail)); done))))) (by (try simp only []); omega)
      · repeat first
          | (apply WL.q; exact rfl; exact rfl; exact rfl; (first | (apply EvW.move; exact rfl) | (apply EvW.assign; exact rfl) | (apply EvW.lenS; exact rfl; exact UndC.eq) | (apply EvW.cmpT; exact rfl; exact rfl; exact rfl; omega) | (apply EvW.cmpF; exact rfl; exact rfl; exact rfl; omega) | (apply EvW.cmp; exact rfl; exact rfl; exact rfl) | (apply EvW.arN; exact rfl; exact rfl; exact rfl; refine i64_in ?_ ?_ <;> omega) | (apply EvW.ar; exact rfl; exact rfl; exact rfl) | (apply EvW.convN; exact rfl; exact UndC.eq; exact UndC.eq; refine i64_in ?_ ?_ <;> omega) | (apply EvW.convW; exact rfl; exact UndC.eq; exact UndC.eq; exact of_decide_eq_true rfl) | (apply EvW.conv; exact rfl; exact UndC.eq; exact UndC.eq) | (apply EvW.index; exact rfl; exact rfl; exact UndC.eq; omega; omega)))
          | refine WC.seq ?_ | refine WC.region ?_ | refine WL.nil ?_ | refine WE.next ?_ | refine WC.block ?_ | refine WC.skip ?_ | refine WC.exit ?_ | refine WE.pass ?_ | refine WE.hit ?_ | refine WE.miss rfl ?_ | refine WE.out ?_ | refine WC.condT rfl ?_ | refine WC.condF rfl ?_ | refine WC.ret ?_ | refine WE.passRet ?_ | refine WE.outRet ?_ | refine WL.wanted rfl rfl rfl ?_
        rw [rsum_lo y h2, ← hsu]
        exact WE.again (s := k) (k + 1) (by omega) (by (focus ((repeat (first | exact trivial | (refine ⟨rfl, ?_⟩))); done))) (fun _ h => (by (try simp only []); exact h.keep (by (focus ((repeat (first | exact TakeL.nil | apply TakeL.cons | exact Take.head | apply Take.tail)); done))))) (by (try simp only []); omega)
    · obtain rfl : k = 8 := by omega
      have hcr : crcN 8 (crc (l.take i) ^^^ crcU (l.getD i 0) <<< 24) = crc (l.take (i + 1)) := by rw [hsn]; unfold crc; rw [crcL_snoc]
      rw [hcr]
      repeat first
        | (apply WL.q; exact rfl; exact rfl; exact rfl; (first | (apply EvW.move; exact rfl) | (apply EvW.assign; exact rfl) | (apply EvW.lenS; exact rfl; exact UndC.eq) | (apply EvW.cmpT; exact rfl; exact rfl; exact rfl; omega) | (apply EvW.cmpF; exact rfl; exact rfl; exact rfl; omega) | (apply EvW.cmp; exact rfl; exact rfl; exact rfl) | (apply EvW.arN; exact rfl; exact rfl; exact rfl; refine i64_in ?_ ?_ <;> omega) | (apply EvW.ar; exact rfl; exact rfl; exact rfl) | (apply EvW.convN; exact rfl; exact UndC.eq; exact UndC.eq; refine i64_in ?_ ?_ <;> omega) | (apply EvW.convW; exact rfl; exact UndC.eq; exact UndC.eq; exact of_decide_eq_true rfl) | (apply EvW.conv; exact rfl; exact UndC.eq; exact UndC.eq) | (apply EvW.index; exact rfl; exact rfl; exact UndC.eq; omega; omega)))
        | refine WC.seq ?_ | refine WC.region ?_ | refine WL.nil ?_ | refine WE.next ?_ | refine WC.block ?_ | refine WC.skip ?_ | refine WC.exit ?_ | refine WE.pass ?_ | refine WE.hit ?_ | refine WE.miss rfl ?_ | refine WE.out ?_ | refine WC.condT rfl ?_ | refine WC.condF rfl ?_ | refine WC.ret ?_ | refine WE.passRet ?_ | refine WE.outRet ?_ | refine WL.wanted rfl rfl rfl ?_
      exact WE.again (s := i) (i + 1) (by omega) (by (focus ((repeat (first | exact trivial | (refine ⟨rfl, ?_⟩))); done))) (fun _ h => (by (try simp only []); exact h.keep (by (focus ((repeat (first | exact TakeL.nil | apply TakeL.cons | exact Take.head | apply Take.tail)); done))))) (by (try simp only []); omega)
  · obtain rfl : i = l.length := by omega
    rw [List.take_length]
    repeat first
      | (apply WL.q; exact rfl; exact rfl; exact rfl; (first | (apply EvW.move; exact rfl) | (apply EvW.assign; exact rfl) | (apply EvW.lenS; exact rfl; exact UndC.eq) | (apply EvW.cmpT; exact rfl; exact rfl; exact rfl; omega) | (apply EvW.cmpF; exact rfl; exact rfl; exact rfl; omega) | (apply EvW.cmp; exact rfl; exact rfl; exact rfl) | (apply EvW.arN; exact rfl; exact rfl; exact rfl; refine i64_in ?_ ?_ <;> omega) | (apply EvW.ar; exact rfl; exact rfl; exact rfl) | (apply EvW.convN; exact rfl; exact UndC.eq; exact UndC.eq; refine i64_in ?_ ?_ <;> omega) | (apply EvW.convW; exact rfl; exact UndC.eq; exact UndC.eq; exact of_decide_eq_true rfl) | (apply EvW.conv; exact rfl; exact UndC.eq; exact UndC.eq) | (apply EvW.index; exact rfl; exact rfl; exact UndC.eq; omega; omega)))
      | refine WC.seq ?_ | refine WC.region ?_ | refine WL.nil ?_ | refine WE.next ?_ | refine WC.block ?_ | refine WC.skip ?_ | refine WC.exit ?_ | refine WE.pass ?_ | refine WE.hit ?_ | refine WE.miss rfl ?_ | refine WE.out ?_ | refine WC.condT rfl ?_ | refine WC.condF rfl ?_ | refine WC.ret ?_ | refine WE.passRet ?_ | refine WE.outRet ?_ | refine WL.wanted rfl rfl rfl ?_
    refine WE.ret1 rfl rfl ?_
    exact ⟨rfl, rfl⟩
theorem rbig_spec (x : Int) (k : Nat) (w : World) (S : BSet) (hS : (sepL []).sat S w) (hk1 : 1 ≤ k) (hk : k ≤ 4) (h0 : 0 ≤ x) (h1 : x ≤ 9223372036854775807) :
    Tri Try.prog 53 #[i64 x, i64 k] w S fun u A => u = str (be k x) ∧ A = [] := by
  refine Tri.enter (l := [i64 x, i64 k]) Try.func53 rfl Try.ntmps53 rfl [(0, i64 x), (1, i64 k)] (subA rfl) hS ?_
  repeat first
    | (apply WL.q; exact rfl; exact rfl; exact rfl; (first | (apply EvW.move; exact rfl) | (apply EvW.assign; exact rfl) | (apply EvW.cmpT; exact rfl; exact rfl; exact rfl; omega) | (apply EvW.cmpF; exact rfl; exact rfl; exact rfl; omega) | (apply EvW.cmp; exact rfl; exact rfl; exact rfl) | (apply EvW.arN; exact rfl; exact rfl; exact rfl; (first | (refine i64_in ?_ ?_ <;> omega) | (constructor <;> simp only [IntKind.min, IntKind.max, IntKind.signed, IntKind.bits, ↓reduceIte, Bool.false_eq_true] <;> omega))) | (apply EvW.ar; exact rfl; exact rfl; exact rfl) | (apply EvW.convN; exact rfl; exact UndC.eq; exact UndC.eq; (first | (refine i64_in ?_ ?_ <;> omega) | (constructor <;> simp only [IntKind.min, IntKind.max, IntKind.signed, IntKind.bits, ↓reduceIte, Bool.false_eq_true] <;> omega))) | (apply EvW.convW; exact rfl; exact UndC.eq; exact UndC.eq; exact of_decide_eq_true rfl) | (apply EvW.conv; exact rfl; exact UndC.eq; exact UndC.eq) | (apply EvW.strRow; exact rfl; exact UndC.eq; exact UndC.eq; exact UndC.eq; assumption) | (apply EvW.strOwn; exact rfl; exact UndC.eq; exact UndC.eq; exact UndC.eq; (focus ((repeat (first | exact Take.head | apply Take.tail)); done))) | (apply EvW.idxRow; exact rfl; exact rfl; exact UndC.eq; exact SzC.eq; assumption; omega; omega) | (apply EvW.idxOwn; exact rfl; exact rfl; exact UndC.eq; exact SzC.eq; (focus ((repeat (first | exact Take.head | apply Take.tail)); done)); omega; omega) | (apply EvW.remW; exact rfl; exact rfl; exact rfl; omega) | (apply EvW.remP; exact rfl; exact rfl; omega; omega) | (apply EvW.rem; exact rfl; exact rfl; omega) | (apply EvW.quoP; exact rfl; exact rfl; omega; omega; (first | omega | exact Int.le_trans (by omega) (of_decide_eq_true rfl : (9223372036854775807 : Int) ≤ _) | (simp only [IntKind.max, IntKind.signed, IntKind.bits, ↓reduceIte, Bool.false_eq_true]; omega))) | (apply EvW.quo; exact rfl; exact rfl; omega)))
    | refine WC.seq ?_ | refine WC.region ?_ | refine WL.nil ?_ | refine WE.next ?_ | refine WC.block ?_ | refine WC.skip ?_ | refine WC.exit ?_ | refine WE.pass ?_ | refine WE.hit ?_ | refine WE.miss rfl ?_ | refine WE.out ?_ | refine WC.condT rfl ?_ | refine WC.condF rfl ?_ | refine WC.ret ?_ | refine WE.passRet ?_ | refine WE.outRet ?_ | refine WL.wanted rfl rfl rfl ?_ | (apply WL.store; exact rfl; exact rfl; (first | assumption | exact rfl); exact SzC.eq; (first | assumption | exact rfl); (focus ((repeat (first | apply UpdC.head | apply UpdC.tail | exact SetMany.nil | apply SetMany.cons | apply SetMany.succ)); done)))
  try refine WL.wanted rfl rfl rfl ?_
  (apply WL.make1; exact rfl; exact rfl; exact rfl; exact UndC.eq; exact SzC.eq; exact ByC.eq; exact ZvC.eq; exact rfl; omega; omega)
  · (simp only [Int.toNat_natCast]; omega)
  intro v8
  rw [show List.replicate ((k : Nat) : Int).toNat (Value.int .u8 0) = (part k x 0).map byt by rw [part_zero, List.map_replicate]; rfl, show ((k : Nat) : Int).toNat = k from rfl]
  repeat first
    | (apply WL.q; exact rfl; exact rfl; exact rfl; (first | (apply EvW.move; exact rfl) | (apply EvW.assign; exact rfl) | (apply EvW.cmpT; exact rfl; exact rfl; exact rfl; omega) | (apply EvW.cmpF; exact rfl; exact rfl; exact rfl; omega) | (apply EvW.cmp; exact rfl; exact rfl; exact rfl) | (apply EvW.arN; exact rfl; exact rfl; exact rfl; (first | (refine i64_in ?_ ?_ <;> omega) | (constructor <;> simp only [IntKind.min, IntKind.max, IntKind.signed, IntKind.bits, ↓reduceIte, Bool.false_eq_true] <;> omega))) | (apply EvW.ar; exact rfl; exact rfl; exact rfl) | (apply EvW.convN; exact rfl; exact UndC.eq; exact UndC.eq; (first | (refine i64_in ?_ ?_ <;> omega) | (constructor <;> simp only [IntKind.min, IntKind.max, IntKind.signed, IntKind.bits, ↓reduceIte, Bool.false_eq_true] <;> omega))) | (apply EvW.convW; exact rfl; exact UndC.eq; exact UndC.eq; exact of_decide_eq_true rfl) | (apply EvW.conv; exact rfl; exact UndC.eq; exact UndC.eq) | (apply EvW.strRow; exact rfl; exact UndC.eq; exact UndC.eq; exact UndC.eq; assumption) | (apply EvW.strOwn; exact rfl; exact UndC.eq; exact UndC.eq; exact UndC.eq; (focus ((repeat (first | exact Take.head | apply Take.tail)); done))) | (apply EvW.idxRow; exact rfl; exact rfl; exact UndC.eq; exact SzC.eq; assumption; omega; omega) | (apply EvW.idxOwn; exact rfl; exact rfl; exact UndC.eq; exact SzC.eq; (focus ((repeat (first | exact Take.head | apply Take.tail)); done)); omega; omega) | (apply EvW.remW; exact rfl; exact rfl; exact rfl; omega) | (apply EvW.remP; exact rfl; exact rfl; omega; omega) | (apply EvW.rem; exact rfl; exact rfl; omega) | (apply EvW.quoP; exact rfl; exact rfl; omega; omega; (first | omega | exact Int.le_trans (by omega) (of_decide_eq_true rfl : (9223372036854775807 : Int) ≤ _) | (simp only [IntKind.max, IntKind.signed, IntKind.bits, ↓reduceIte, Bool.false_eq_true]; omega))) | (apply EvW.quo; exact rfl; exact rfl; omega)))
    | refine WC.seq ?_ | refine WC.region ?_ | refine WL.nil ?_ | refine WE.next ?_ | refine WC.block ?_ | refine WC.skip ?_ | refine WC.exit ?_ | refine WE.pass ?_ | refine WE.hit ?_ | refine WE.miss rfl ?_ | refine WE.out ?_ | refine WC.condT rfl ?_ | refine WC.condF rfl ?_ | refine WC.ret ?_ | refine WE.passRet ?_ | refine WE.outRet ?_ | refine WL.wanted rfl rfl rfl ?_ | (apply WL.store; exact rfl; exact rfl; (first | assumption | exact rfl); exact SzC.eq; (first | assumption | exact rfl); (focus ((repeat (first | apply UpdC.head | apply UpdC.tail | exact SetMany.nil | apply SetMany.cons | apply SetMany.succ)); done)))
  refine WC.loopK (σ := Nat × Int × Int) [5] (fun s => [(6, i64 s.2.1), (0, i64 s.2.2)]) (fun s => [.own 5 1 v8 k ((part k x s.1).map byt)]) (fun s => s.1 ≤ k ∧ s.2.1 = k - 1 - s.1 ∧ s.2.2 = x / 256 ^ s.1 ∧ 0 ≤ s.2.2 ∧ s.2.2 ≤ 9223372036854775807) (fun s => k - s.1) (0, k - 1, x) (by (focus ((repeat (first | exact Pick.nil | (apply Pick.cons; exact rfl))); done))) (by (focus ((repeat (first | exact trivial | (refine ⟨rfl, ?_⟩))); done))) (fun _ h => h.keep (by (focus ((repeat (first | exact TakeL.nil | apply TakeL.cons | exact Take.head | apply Take.tail)); done)))) ⟨Nat.zero_le _, by simp, by simp, h0, h1⟩ (fun s hs => ?_)
  obtain ⟨j, t, y⟩ := s
  simp only [List.cons_append, List.nil_append] at hs ⊢
  obtain ⟨hj, ht, hy, hy0, hy1⟩ := hs
  by_cases hlt2 : 0 ≤ t
  · have hpl := part_length k x j hj
    repeat first
      | (apply WL.q; exact rfl; exact rfl; exact rfl; (first | (apply EvW.move; exact rfl) | (apply EvW.assign; exact rfl) | (apply EvW.cmpT; exact rfl; exact rfl; exact rfl; omega) | (apply EvW.cmpF; exact rfl; exact rfl; exact rfl; omega) | (apply EvW.cmp; exact rfl; exact rfl; exact rfl) | (apply EvW.arN; exact rfl; exact rfl; exact rfl; (first | (refine i64_in ?_ ?_ <;> omega) | (constructor <;> simp only [IntKind.min, IntKind.max, IntKind.signed, IntKind.bits, ↓reduceIte, Bool.false_eq_true] <;> omega))) | (apply EvW.ar; exact rfl; exact rfl; exact rfl) | (apply EvW.convN; exact rfl; exact UndC.eq; exact UndC.eq; (first | (refine i64_in ?_ ?_ <;> omega) | (constructor <;> simp only [IntKind.min, IntKind.max, IntKind.signed, IntKind.bits, ↓reduceIte, Bool.false_eq_true] <;> omega))) | (apply EvW.convW; exact rfl; exact UndC.eq; exact UndC.eq; exact of_decide_eq_true rfl) | (apply EvW.conv; exact rfl; exact UndC.eq; exact UndC.eq) | (apply EvW.strRow; exact rfl; exact UndC.eq; exact UndC.eq; exact UndC.eq; assumption) | (apply EvW.strOwn; exact rfl; exact UndC.eq; exact UndC.eq; exact UndC.eq; (focus ((repeat (first | exact Take.head | apply Take.tail)); done))) | (apply EvW.idxRow; exact rfl; exact rfl; exact UndC.eq; exact SzC.eq; assumption; omega; omega) | (apply EvW.idxOwn; exact rfl; exact rfl; exact UndC.eq; exact SzC.eq; (focus ((repeat (first | exact Take.head | apply Take.tail)); done)); omega; omega) | (apply EvW.remW; exact rfl; exact rfl; exact rfl; omega) | (apply EvW.remP; exact rfl; exact rfl; omega; omega) | (apply EvW.rem; exact rfl; exact rfl; omega) | (apply EvW.quoP; exact rfl; exact rfl; omega; omega; (first | omega | exact Int.le_trans (by omega) (of_decide_eq_true rfl : (9223372036854775807 : Int) ≤ _) | (simp only [IntKind.max, IntKind.signed, IntKind.bits, ↓reduceIte, Bool.false_eq_true]; omega))) | (apply EvW.quo; exact rfl; exact rfl; omega)))
      | refine WC.seq ?_ | refine WC.region ?_ | refine WL.nil ?_ | refine WE.next ?_ | refine WC.block ?_ | refine WC.skip ?_ | refine WC.exit ?_ | refine WE.pass ?_ | refine WE.hit ?_ | refine WE.miss rfl ?_ | refine WE.out ?_ | refine WC.condT rfl ?_ | refine WC.condF rfl ?_ | refine WC.ret ?_ | refine WE.passRet ?_ | refine WE.outRet ?_ | refine WL.wanted rfl rfl rfl ?_ | (apply WL.store; exact rfl; exact rfl; (first | assumption | exact rfl); exact SzC.eq; (first | assumption | exact rfl); (focus ((repeat (first | apply UpdC.head | apply UpdC.tail | exact SetMany.nil | apply SetMany.cons | apply SetMany.succ)); done)))
    have htn : t.toNat * 1 + 0 = k - 1 - j := by omega
    have hset : ((part k x j).map byt).set (k - 1 - j) (.int .u8 (y % 256)) = (part k x (j + 1)).map byt := by
      rw [← byt_mod, ← List.map_set, hy, part_set k x j (by omega)]
    have hdiv : y / 256 = x / 256 ^ (j + 1) := by
      rw [hy, Int.pow_succ, Int.ediv_ediv_of_nonneg (by have := pow256 j (by omega); omega)]
    have hy2 : 0 ≤ y / 256 ∧ y / 256 ≤ 9223372036854775807 := by omega
    (apply WL.stOwn; exact rfl; exact rfl; exact rfl; exact SzC.eq; exact rfl; exact rfl; (focus ((repeat (first | exact Take.head | apply Take.tail)); done)))
    · rw [List.length_map, hpl, List.length_singleton]; omega
    · rw [over_one (by rw [List.length_map, hpl]; omega), htn, hset]; exact .head
    repeat first
      | (apply WL.q; exact rfl; exact rfl; exact rfl; (first | (apply EvW.move; exact rfl) | (apply EvW.assign; exact rfl) | (apply EvW.cmpT; exact rfl; exact rfl; exact rfl; omega) | (apply EvW.cmpF; exact rfl; exact rfl; exact rfl; omega) | (apply EvW.cmp; exact rfl; exact rfl; exact rfl) | (apply EvW.arN; exact rfl; exact rfl; exact rfl; (first | (refine i64_in ?_ ?_ <;> omega) | (constructor <;> simp only [IntKind.min, IntKind.max, IntKind.signed, IntKind.bits, ↓reduceIte, Bool.false_eq_true] <;> omega))) | (apply EvW.ar; exact rfl; exact rfl; exact rfl) | (apply EvW.convN; exact rfl; exact UndC.eq; exact UndC.eq; (first | (refine i64_in ?_ ?_ <;> omega) | (constructor <;> simp only [IntKind.min, IntKind.max, IntKind.signed, IntKind.bits, ↓reduceIte, Bool.false_eq_true] <;> omega))) | (apply EvW.convW; exact rfl; exact UndC.eq; exact UndC.eq; exact of_decide_eq_true rfl) | (apply EvW.conv; exact rfl; exact UndC.eq; exact UndC.eq) | (apply EvW.strRow; exact rfl; exact UndC.eq; exact UndC.eq; exact UndC.eq; assumption) | (apply EvW.strOwn; exact rfl; exact UndC.eq; exact UndC.eq; exact UndC.eq; (focus ((repeat (first | exact Take.head | apply Take.tail)); done))) | (apply EvW.idxRow; exact rfl; exact rfl; exact UndC.eq; exact SzC.eq; assumption; omega; omega) | (apply EvW.idxOwn; exact rfl; exact rfl; exact UndC.eq; exact SzC.eq; (focus ((repeat (first | exact Take.head | apply Take.tail)); done)); omega; omega) | (apply EvW.remW; exact rfl; exact rfl; exact rfl; omega) | (apply EvW.remP; exact rfl; exact rfl; omega; omega) | (apply EvW.rem; exact rfl; exact rfl; omega) | (apply EvW.quoP; exact rfl; exact rfl; omega; omega; (first | omega | exact Int.le_trans (by omega) (of_decide_eq_true rfl : (9223372036854775807 : Int) ≤ _) | (simp only [IntKind.max, IntKind.signed, IntKind.bits, ↓reduceIte, Bool.false_eq_true]; omega))) | (apply EvW.quo; exact rfl; exact rfl; omega)))
      | refine WC.seq ?_ | refine WC.region ?_ | refine WL.nil ?_ | refine WE.next ?_ | refine WC.block ?_ | refine WC.skip ?_ | refine WC.exit ?_ | refine WE.pass ?_ | refine WE.hit ?_ | refine WE.miss rfl ?_ | refine WE.out ?_ | refine WC.condT rfl ?_ | refine WC.condF rfl ?_ | refine WC.ret ?_ | refine WE.passRet ?_ | refine WE.outRet ?_ | refine WL.wanted rfl rfl rfl ?_ | (apply WL.store; exact rfl; exact rfl; (first | assumption | exact rfl); exact SzC.eq; (first | assumption | exact rfl); (focus ((repeat (first | apply UpdC.head | apply UpdC.tail | exact SetMany.nil | apply SetMany.cons | apply SetMany.succ)); done)))
    exact WE.again (s := (j, t, y)) ((j + 1, t - 1, y / 256)) ⟨by simp only []; omega, by simp only []; omega, hdiv, hy2.1, hy2.2⟩ (by (focus ((repeat (first | exact trivial | (refine ⟨rfl, ?_⟩))); done))) (fun _ h => (by (try simp only []); exact h.keep (by (focus ((repeat (first | exact TakeL.nil | apply TakeL.cons | exact Take.head | apply Take.tail)); done))))) (by (try simp only []); omega)
  · obtain rfl : j = k := by omega
    rw [part_all]
    repeat first
      | (apply WL.q; exact rfl; exact rfl; exact rfl; (first | (apply EvW.move; exact rfl) | (apply EvW.assign; exact rfl) | (apply EvW.cmpT; exact rfl; exact rfl; exact rfl; omega) | (apply EvW.cmpF; exact rfl; exact rfl; exact rfl; omega) | (apply EvW.cmp; exact rfl; exact rfl; exact rfl) | (apply EvW.arN; exact rfl; exact rfl; exact rfl; (first | (refine i64_in ?_ ?_ <;> omega) | (constructor <;> simp only [IntKind.min, IntKind.max, IntKind.signed, IntKind.bits, ↓reduceIte, Bool.false_eq_true] <;> omega))) | (apply EvW.ar; exact rfl; exact rfl; exact rfl) | (apply EvW.convN; exact rfl; exact UndC.eq; exact UndC.eq; (first | (refine i64_in ?_ ?_ <;> omega) | (constructor <;> simp only [IntKind.min, IntKind.max, IntKind.signed, IntKind.bits, ↓reduceIte, Bool.false_eq_true] <;> omega))) | (apply EvW.convW; exact rfl; exact UndC.eq; exact UndC.eq; exact of_decide_eq_true rfl) | (apply EvW.conv; exact rfl; exact UndC.eq; exact UndC.eq) | (apply EvW.strRow; exact rfl; exact UndC.eq; exact UndC.eq; exact UndC.eq; assumption) | (apply EvW.strOwn; exact rfl; exact UndC.eq; exact UndC.eq; exact UndC.eq; (focus ((repeat (first | exact Take.head | apply Take.tail)); done))) | (apply EvW.idxRow; exact rfl; exact rfl; exact UndC.eq; exact SzC.eq; assumption; omega; omega) | (apply EvW.idxOwn; exact rfl; exact rfl; exact UndC.eq; exact SzC.eq; (focus ((repeat (first | exact Take.head | apply Take.tail)); done)); omega; omega) | (apply EvW.remW; exact rfl; exact rfl; exact rfl; omega) | (apply EvW.remP; exact rfl; exact rfl; omega; omega) | (apply EvW.rem; exact rfl; exact rfl; omega) | (apply EvW.quoP; exact rfl; exact rfl; omega; omega; (first | omega | exact Int.le_trans (by omega) (of_decide_eq_true rfl : (9223372036854775807 : Int) ≤ _) | (simp only [IntKind.max, IntKind.signed, IntKind.bits, ↓reduceIte, Bool.false_eq_true]; omega))) | (apply EvW.quo; exact rfl; exact rfl; omega)))
      | refine WC.seq ?_ | refine WC.region ?_ | refine WL.nil ?_ | refine WE.next ?_ | refine WC.block ?_ | refine WC.skip ?_ | refine WC.exit ?_ | refine WE.pass ?_ | refine WE.hit ?_ | refine WE.miss rfl ?_ | refine WE.out ?_ | refine WC.condT rfl ?_ | refine WC.condF rfl ?_ | refine WC.ret ?_ | refine WE.passRet ?_ | refine WE.outRet ?_ | refine WL.wanted rfl rfl rfl ?_ | (apply WL.store; exact rfl; exact rfl; (first | assumption | exact rfl); exact SzC.eq; (first | assumption | exact rfl); (focus ((repeat (first | apply UpdC.head | apply UpdC.tail | exact SetMany.nil | apply SetMany.cons | apply SetMany.succ)); done)))
    refine WE.bare ?_
    refine WE.ret1 rfl rfl ?_
    exact ⟨rfl, rfl⟩
theorem rseal_spec (b : List UInt8) (w : World) (S : BSet) (hS : (sepL []).sat S w) (hl : b.length ≤ 1152921504606846976) :
    Tri Try.prog 35 #[str b] w S fun u A => u = .tuple #[str (sealF b).1, i64 (sealF b).2] ∧ A = [] := by
  refine Tri.enter (l := [str b]) Try.func35 rfl Try.ntmps35 rfl [(0, str b)] (subA rfl) hS ?_
  by_cases hlong : (b.length : Int) > 1024
  · have hF : sealF b = ([], 2) := by unfold sealF; rw [if_pos (by omega)]
    rw [hF]
    repeat first
      | (apply WL.q; exact rfl; exact rfl; exact rfl; (first | (apply EvW.move; exact rfl) | (apply EvW.assign; exact rfl) | (apply EvW.lenS; exact rfl; exact UndC.eq) | (apply EvW.cmpT; exact rfl; exact rfl; exact rfl; omega) | (apply EvW.cmpF; exact rfl; exact rfl; exact rfl; omega) | (apply EvW.cmp; exact rfl; exact rfl; exact rfl) | (apply EvW.sadd; exact rfl; exact rfl; (first | omega | (simp only [List.length_append, List.length_cons, List.length_nil]; omega)))))
      | refine WC.seq ?_ | refine WC.region ?_ | refine WL.nil ?_ | refine WE.next ?_ | refine WC.skip ?_ | refine WC.exit ?_ | refine WE.pass ?_ | refine WE.hit ?_ | refine WE.miss rfl ?_ | refine WE.out ?_ | refine WC.condT rfl ?_ | refine WC.condF rfl ?_ | refine WC.ret ?_ | refine WE.passRet ?_ | refine WE.outRet ?_ | refine WL.wanted rfl rfl rfl ?_
    refine WE.retN (l := [2, 3]) rfl rfl rfl ?_
    exact ⟨rfl, rfl⟩
  · have hF : sealF b = (frame b, 0) := by unfold sealF; rw [if_neg (by omega)]
    have hhl := head_length b
    have hbl := be_length 2 (b.length : Int)
    have hcl := be_length 4 ((crc (head b)).toNat : Int)
    have hcb := (crc (head b)).isLt
    rw [hF]
    repeat first
      | (apply WL.q; exact rfl; exact rfl; exact rfl; (first | (apply EvW.move; exact rfl) | (apply EvW.assign; exact rfl) | (apply EvW.lenS; exact rfl; exact UndC.eq) | (apply EvW.cmpT; exact rfl; exact rfl; exact rfl; omega) | (apply EvW.cmpF; exact rfl; exact rfl; exact rfl; omega) | (apply EvW.cmp; exact rfl; exact rfl; exact rfl) | (apply EvW.sadd; exact rfl; exact rfl; (first | omega | (simp only [List.length_append, List.length_cons, List.length_nil]; omega)))))
      | refine WC.seq ?_ | refine WC.region ?_ | refine WL.nil ?_ | refine WE.next ?_ | refine WC.skip ?_ | refine WC.exit ?_ | refine WE.pass ?_ | refine WE.hit ?_ | refine WE.miss rfl ?_ | refine WE.out ?_ | refine WC.condT rfl ?_ | refine WC.condF rfl ?_ | refine WC.ret ?_ | refine WE.passRet ?_ | refine WE.outRet ?_ | refine WL.wanted rfl rfl rfl ?_
    try refine WL.wanted rfl rfl rfl ?_
    apply WL.callT
    · exact rfl
    · exact rfl
    · exact fun w1 S1 hS1 hs1 ho1 => rbig_spec b.length 2 w1 S1 hS1 (by decide) (by decide) (by omega) (by omega)
    · exact fun w => Try.call53 _ w
    · (focus ((repeat (first | exact TakeL.nil | apply TakeL.cons | exact Take.head | apply Take.tail)); done))
    rintro _ _ ⟨rfl, rfl⟩
    first | refine WL.app4 ?_ | refine WL.app3 ?_ | refine WL.app2 ?_ | refine WL.app1 ?_ | refine WL.app0 ?_ | skip
    repeat first
      | (apply WL.q; exact rfl; exact rfl; exact rfl; (first | (apply EvW.move; exact rfl) | (apply EvW.assign; exact rfl) | (apply EvW.lenS; exact rfl; exact UndC.eq) | (apply EvW.cmpT; exact rfl; exact rfl; exact rfl; omega) | (apply EvW.cmpF; exact rfl; exact rfl; exact rfl; omega) | (apply EvW.cmp; exact rfl; exact rfl; exact rfl) | (apply EvW.sadd; exact rfl; exact rfl; (first | omega | (simp only [List.length_append, List.length_cons, List.length_nil]; omega)))))
      | refine WC.seq ?_ | refine WC.region ?_ | refine WL.nil ?_ | refine WE.next ?_ | refine WC.skip ?_ | refine WC.exit ?_ | refine WE.pass ?_ | refine WE.hit ?_ | refine WE.miss rfl ?_ | refine WE.out ?_ | refine WC.condT rfl ?_ | refine WC.condF rfl ?_ | refine WC.ret ?_ | refine WE.passRet ?_ | refine WE.outRet ?_ | refine WL.wanted rfl rfl rfl ?_
    rw [show be 2 (b.length : Int) ++ b = head b from rfl]
    try refine WL.wanted rfl rfl rfl ?_
    apply WL.callT
    · exact rfl
    · exact rfl
    · exact fun w1 S1 hS1 hs1 ho1 => rsum_spec (head b) w1 S1 hS1 (by omega)
    · exact fun w => Try.call54 _ w
    · (focus ((repeat (first | exact TakeL.nil | apply TakeL.cons | exact Take.head | apply Take.tail)); done))
    rintro _ _ ⟨rfl, rfl⟩
    first | refine WL.app4 ?_ | refine WL.app3 ?_ | refine WL.app2 ?_ | refine WL.app1 ?_ | refine WL.app0 ?_ | skip
    repeat first
      | (apply WL.q; exact rfl; exact rfl; exact rfl; (first | (apply EvW.move; exact rfl) | (apply EvW.assign; exact rfl) | (apply EvW.lenS; exact rfl; exact UndC.eq) | (apply EvW.cmpT; exact rfl; exact rfl; exact rfl; omega) | (apply EvW.cmpF; exact rfl; exact rfl; exact rfl; omega) | (apply EvW.cmp; exact rfl; exact rfl; exact rfl) | (apply EvW.sadd; exact rfl; exact rfl; (first | omega | (simp only [List.length_append, List.length_cons, List.length_nil]; omega)))))
      | refine WC.seq ?_ | refine WC.region ?_ | refine WL.nil ?_ | refine WE.next ?_ | refine WC.skip ?_ | refine WC.exit ?_ | refine WE.pass ?_ | refine WE.hit ?_ | refine WE.miss rfl ?_ | refine WE.out ?_ | refine WC.condT rfl ?_ | refine WC.condF rfl ?_ | refine WC.ret ?_ | refine WE.passRet ?_ | refine WE.outRet ?_ | refine WL.wanted rfl rfl rfl ?_
    try refine WL.wanted rfl rfl rfl ?_
    apply WL.callT
    · exact rfl
    · exact rfl
    · exact fun w1 S1 hS1 hs1 ho1 => rbig_spec ((crc (head b)).toNat : Int) 4 w1 S1 hS1 (by decide) (by decide) (by omega) (by omega)
    · exact fun w => Try.call53 _ w
    · (focus ((repeat (first | exact TakeL.nil | apply TakeL.cons | exact Take.head | apply Take.tail)); done))
    rintro _ _ ⟨rfl, rfl⟩
    first | refine WL.app4 ?_ | refine WL.app3 ?_ | refine WL.app2 ?_ | refine WL.app1 ?_ | refine WL.app0 ?_ | skip
    repeat first
      | (apply WL.q; exact rfl; exact rfl; exact rfl; (first | (apply EvW.move; exact rfl) | (apply EvW.assign; exact rfl) | (apply EvW.lenS; exact rfl; exact UndC.eq) | (apply EvW.cmpT; exact rfl; exact rfl; exact rfl; omega) | (apply EvW.cmpF; exact rfl; exact rfl; exact rfl; omega) | (apply EvW.cmp; exact rfl; exact rfl; exact rfl) | (apply EvW.sadd; exact rfl; exact rfl; (first | omega | (simp only [List.length_append, List.length_cons, List.length_nil]; omega)))))
      | refine WC.seq ?_ | refine WC.region ?_ | refine WL.nil ?_ | refine WE.next ?_ | refine WC.skip ?_ | refine WC.exit ?_ | refine WE.pass ?_ | refine WE.hit ?_ | refine WE.miss rfl ?_ | refine WE.out ?_ | refine WC.condT rfl ?_ | refine WC.condF rfl ?_ | refine WC.ret ?_ | refine WE.passRet ?_ | refine WE.outRet ?_ | refine WL.wanted rfl rfl rfl ?_
    refine WE.retN (l := [2, 3]) rfl rfl rfl ?_
    exact ⟨rfl, rfl⟩
theorem numOf_two (l : List UInt8) (h : 2 ≤ l.length) : numOf (l.take 2) = ((l.getD 0 0).toNat : Int) * 256 + (l.getD 1 0).toNat := by
  match l, h with
  | a :: b :: r, _ => simp [numOf]
theorem rnext_spec (l : List UInt8) (a : Int) (w : World) (S : BSet) (hS : (sepL []).sat S w) (hl : l.length ≤ 1152921504606846976) :
    Tri Try.prog 58 #[str l, i64 a] w S fun u A => u = .tuple #[str (nextF l a).1, i64 (nextF l a).2.1, i64 (nextF l a).2.2] ∧ A = [] := by
  refine Tri.enter (l := [str l, i64 a]) Try.func58 rfl Try.ntmps58 rfl [(0, str l), (1, i64 a)] (subA rfl) hS ?_
  by_cases ha0 : a < 0
  · have hF : nextF l a = ([], 0, 20) := by unfold nextF; rw [if_pos (.inl ha0)]
    rw [hF]
    repeat first
      | (apply WL.q; exact rfl; exact rfl; exact rfl; (first | (apply EvW.move; exact rfl) | (apply EvW.assign; exact rfl) | (apply EvW.extract; exact rfl; exact rfl) | (apply EvW.lenS; exact rfl; exact UndC.eq) | (apply EvW.cmpT; exact rfl; exact rfl; exact rfl; omega) | (apply EvW.cmpF; exact rfl; exact rfl; exact rfl; omega) | (apply EvW.cmp; exact rfl; exact rfl; exact rfl) | (apply EvW.arN; exact rfl; exact rfl; exact rfl; refine i64_in ?_ ?_ <;> omega) | (apply EvW.ar; exact rfl; exact rfl; exact rfl) | (apply EvW.convN; exact rfl; exact UndC.eq; exact UndC.eq; refine i64_in ?_ ?_ <;> omega) | (apply EvW.convW; exact rfl; exact UndC.eq; exact UndC.eq; exact of_decide_eq_true rfl) | (apply EvW.conv; exact rfl; exact UndC.eq; exact UndC.eq) | (apply EvW.pickT; exact rfl; exact rfl) | (apply EvW.pickF; exact rfl; exact rfl) | (apply EvW.sneS; exact rfl; exact rfl) | (apply EvW.sne; exact rfl; exact rfl) | (apply EvW.index; exact rfl; exact rfl; exact UndC.eq; omega; omega) | (apply EvW.sliceS; exact rfl; exact UndC.eq; exact rfl; exact rfl; omega; omega; omega) | (apply EvW.sliceS_lo; exact rfl; exact UndC.eq; exact rfl; omega; omega) | (apply EvW.sliceS_hi; exact rfl; exact UndC.eq; exact rfl; omega; omega)))
      | refine WC.seq ?_ | refine WC.region ?_ | refine WL.nil ?_ | refine WE.next ?_ | refine WC.skip ?_ | refine WC.exit ?_ | refine WE.pass ?_ | refine WE.hit ?_ | refine WE.miss rfl ?_ | refine WE.out ?_ | refine WC.condT rfl ?_ | refine WC.condF rfl ?_ | refine WC.ret ?_ | refine WE.passRet ?_ | refine WE.outRet ?_ | refine WL.wanted rfl rfl rfl ?_ | refine WL.unwanted rfl rfl rfl rfl ?_ | refine WL.unwantedU rfl rfl rfl rfl ?_ | refine WL.unwanted0 rfl rfl rfl ?_
    refine WE.retN (l := [4, 5, 6]) rfl rfl rfl ?_
    exact ⟨rfl, rfl⟩
  · by_cases ha1 : a > l.length
    · have hF : nextF l a = ([], 0, 20) := by unfold nextF; rw [if_pos (.inr ha1)]
      rw [hF]
      repeat first
        | (apply WL.q; exact rfl; exact rfl; exact rfl; (first | (apply EvW.move; exact rfl) | (apply EvW.assign; exact rfl) | (apply EvW.extract; exact rfl; exact rfl) | (apply EvW.lenS; exact rfl; exact UndC.eq) | (apply EvW.cmpT; exact rfl; exact rfl; exact rfl; omega) | (apply EvW.cmpF; exact rfl; exact rfl; exact rfl; omega) | (apply EvW.cmp; exact rfl; exact rfl; exact rfl) | (apply EvW.arN; exact rfl; exact rfl; exact rfl; refine i64_in ?_ ?_ <;> omega) | (apply EvW.ar; exact rfl; exact rfl; exact rfl) | (apply EvW.convN; exact rfl; exact UndC.eq; exact UndC.eq; refine i64_in ?_ ?_ <;> omega) | (apply EvW.convW; exact rfl; exact UndC.eq; exact UndC.eq; exact of_decide_eq_true rfl) | (apply EvW.conv; exact rfl; exact UndC.eq; exact UndC.eq) | (apply EvW.pickT; exact rfl; exact rfl) | (apply EvW.pickF; exact rfl; exact rfl) | (apply EvW.sneS; exact rfl; exact rfl) | (apply EvW.sne; exact rfl; exact rfl) | (apply EvW.index; exact rfl; exact rfl; exact UndC.eq; omega; omega) | (apply EvW.sliceS; exact rfl; exact UndC.eq; exact rfl; exact rfl; omega; omega; omega) | (apply EvW.sliceS_lo; exact rfl; exact UndC.eq; exact rfl; omega; omega) | (apply EvW.sliceS_hi; exact rfl; exact UndC.eq; exact rfl; omega; omega)))
        | refine WC.seq ?_ | refine WC.region ?_ | refine WL.nil ?_ | refine WE.next ?_ | refine WC.skip ?_ | refine WC.exit ?_ | refine WE.pass ?_ | refine WE.hit ?_ | refine WE.miss rfl ?_ | refine WE.out ?_ | refine WC.condT rfl ?_ | refine WC.condF rfl ?_ | refine WC.ret ?_ | refine WE.passRet ?_ | refine WE.outRet ?_ | refine WL.wanted rfl rfl rfl ?_ | refine WL.unwanted rfl rfl rfl rfl ?_ | refine WL.unwantedU rfl rfl rfl rfl ?_ | refine WL.unwanted0 rfl rfl rfl ?_
      refine WE.retN (l := [4, 5, 6]) rfl rfl rfl ?_
      exact ⟨rfl, rfl⟩
    · have hF : nextF l a = if (cutF (l.drop a.toNat)).2 ≠ 0 then ([], 0, (cutF (l.drop a.toNat)).2) else bodyF ((l.drop a.toNat).take (cutF (l.drop a.toNat)).1.toNat) a := by
        unfold nextF; rw [if_neg (by omega)]
      rw [hF]
      have hdl : (l.drop a.toNat).length = l.length - a.toNat := by simp
      obtain ⟨r, hr⟩ : ∃ r, l.drop a.toNat = r := ⟨_, rfl⟩
      rw [hr] at hdl ⊢
      by_cases h6 : (r.length : Int) < 6
      · have hc : cutF r = (0, 1) := by unfold cutF; rw [if_pos (by omega)]
        rw [hc, if_pos (by simp)]
        rw [← hr] at h6
        repeat first
          | (apply WL.q; exact rfl; exact rfl; exact rfl; (first | (apply EvW.move; exact rfl) | (apply EvW.assign; exact rfl) | (apply EvW.extract; exact rfl; exact rfl) | (apply EvW.lenS; exact rfl; exact UndC.eq) | (apply EvW.cmpT; exact rfl; exact rfl; exact rfl; omega) | (apply EvW.cmpF; exact rfl; exact rfl; exact rfl; omega) | (apply EvW.cmp; exact rfl; exact rfl; exact rfl) | (apply EvW.arN; exact rfl; exact rfl; exact rfl; refine i64_in ?_ ?_ <;> omega) | (apply EvW.ar; exact rfl; exact rfl; exact rfl) | (apply EvW.convN; exact rfl; exact UndC.eq; exact UndC.eq; refine i64_in ?_ ?_ <;> omega) | (apply EvW.convW; exact rfl; exact UndC.eq; exact UndC.eq; exact of_decide_eq_true rfl) | (apply EvW.conv; exact rfl; exact UndC.eq; exact UndC.eq) | (apply EvW.pickT; exact rfl; exact rfl) | (apply EvW.pickF; exact rfl; exact rfl) | (apply EvW.sneS; exact rfl; exact rfl) | (apply EvW.sne; exact rfl; exact rfl) | (apply EvW.index; exact rfl; exact rfl; exact UndC.eq; omega; omega) | (apply EvW.sliceS; exact rfl; exact UndC.eq; exact rfl; exact rfl; omega; omega; omega) | (apply EvW.sliceS_lo; exact rfl; exact UndC.eq; exact rfl; omega; omega) | (apply EvW.sliceS_hi; exact rfl; exact UndC.eq; exact rfl; omega; omega)))
          | refine WC.seq ?_ | refine WC.region ?_ | refine WL.nil ?_ | refine WE.next ?_ | refine WC.skip ?_ | refine WC.exit ?_ | refine WE.pass ?_ | refine WE.hit ?_ | refine WE.miss rfl ?_ | refine WE.out ?_ | refine WC.condT rfl ?_ | refine WC.condF rfl ?_ | refine WC.ret ?_ | refine WE.passRet ?_ | refine WE.outRet ?_ | refine WL.wanted rfl rfl rfl ?_ | refine WL.unwanted rfl rfl rfl rfl ?_ | refine WL.unwantedU rfl rfl rfl rfl ?_ | refine WL.unwanted0 rfl rfl rfl ?_
        refine WE.retN (l := [4, 5, 6]) rfl rfl rfl ?_
        exact ⟨rfl, rfl⟩
      · have hn2 : numOf (r.take 2) = ((r.getD (0 : Int).toNat 0).toNat : Int) * 256 + (r.getD (1 : Int).toNat 0).toNat := numOf_two r (by omega)
        have hb0 := (r.getD (0 : Int).toNat 0).toNat_lt
        have hb1 := (r.getD (1 : Int).toNat 0).toNat_lt
        have hcf : cutF r = if numOf (r.take 2) > 1024 then (0, 2) else if (r.length : Int) < numOf (r.take 2) + 6 then (0, 1) else (numOf (r.take 2) + 6, 0) := by unfold cutF; rw [if_neg (by omega)]
        have h6' := h6
        rw [← hr] at h6
        repeat first
          | (apply WL.q; exact rfl; exact rfl; exact rfl; (first | (apply EvW.move; exact rfl) | (apply EvW.assign; exact rfl) | (apply EvW.extract; exact rfl; exact rfl) | (apply EvW.lenS; exact rfl; exact UndC.eq) | (apply EvW.cmpT; exact rfl; exact rfl; exact rfl; omega) | (apply EvW.cmpF; exact rfl; exact rfl; exact rfl; omega) | (apply EvW.cmp; exact rfl; exact rfl; exact rfl) | (apply EvW.arN; exact rfl; exact rfl; exact rfl; refine i64_in ?_ ?_ <;> omega) | (apply EvW.ar; exact rfl; exact rfl; exact rfl) | (apply EvW.convN; exact rfl; exact UndC.eq; exact UndC.eq; refine i64_in ?_ ?_ <;> omega) | (apply EvW.convW; exact rfl; exact UndC.eq; exact UndC.eq; exact of_decide_eq_true rfl) | (apply EvW.conv; exact rfl; exact UndC.eq; exact UndC.eq) | (apply EvW.pickT; exact rfl; exact rfl) | (apply EvW.pickF; exact rfl; exact rfl) | (apply EvW.sneS; exact rfl; exact rfl) | (apply EvW.sne; exact rfl; exact rfl) | (apply EvW.index; exact rfl; exact rfl; exact UndC.eq; omega; omega) | (apply EvW.sliceS; exact rfl; exact UndC.eq; exact rfl; exact rfl; omega; omega; omega) | (apply EvW.sliceS_lo; exact rfl; exact UndC.eq; exact rfl; omega; omega) | (apply EvW.sliceS_hi; exact rfl; exact UndC.eq; exact rfl; omega; omega)))
          | refine WC.seq ?_ | refine WC.region ?_ | refine WL.nil ?_ | refine WE.next ?_ | refine WC.skip ?_ | refine WC.exit ?_ | refine WE.pass ?_ | refine WE.hit ?_ | refine WE.miss rfl ?_ | refine WE.out ?_ | refine WC.condT rfl ?_ | refine WC.condF rfl ?_ | refine WC.ret ?_ | refine WE.passRet ?_ | refine WE.outRet ?_ | refine WL.wanted rfl rfl rfl ?_ | refine WL.unwanted rfl rfl rfl rfl ?_ | refine WL.unwantedU rfl rfl rfl rfl ?_ | refine WL.unwanted0 rfl rfl rfl ?_
        simp only [hr]
        repeat refine WC.seq ?_
        apply WC.drawQ Try.mixed
        · (focus ((repeat (first | exact Restr.nil | (apply Restr.keep; exact rfl; exact rfl) | (apply Restr.drop; exact rfl))); done))
        · exact rfl
        · decide +kernel
        · decide +kernel
        · repeat first
            | exact Draws.nil
            | (apply Draws.skip; exact rfl; exact rfl)
            | (apply Draws.q0; exact rfl
               (first | (apply EvW.move; exact rfl) | (apply EvW.assign; exact rfl) | (apply EvW.extract; exact rfl; exact rfl) | (apply EvW.lenS; exact rfl; exact UndC.eq) | (apply EvW.cmpT; exact rfl; exact rfl; exact rfl; omega) | (apply EvW.cmpF; exact rfl; exact rfl; exact rfl; omega) | (apply EvW.cmp; exact rfl; exact rfl; exact rfl) | (apply EvW.arN; exact rfl; exact rfl; exact rfl; refine i64_in ?_ ?_ <;> omega) | (apply EvW.ar; exact rfl; exact rfl; exact rfl) | (apply EvW.convN; exact rfl; exact UndC.eq; exact UndC.eq; refine i64_in ?_ ?_ <;> omega) | (apply EvW.convW; exact rfl; exact UndC.eq; exact UndC.eq; exact of_decide_eq_true rfl) | (apply EvW.conv; exact rfl; exact UndC.eq; exact UndC.eq) | (apply EvW.pickT; exact rfl; exact rfl) | (apply EvW.pickF; exact rfl; exact rfl) | (apply EvW.sneS; exact rfl; exact rfl) | (apply EvW.sne; exact rfl; exact rfl) | (apply EvW.index; exact rfl; exact rfl; exact UndC.eq; omega; omega) | (apply EvW.sliceS; exact rfl; exact UndC.eq; exact rfl; exact rfl; omega; omega; omega) | (apply EvW.sliceS_lo; exact rfl; exact UndC.eq; exact rfl; omega; omega) | (apply EvW.sliceS_hi; exact rfl; exact UndC.eq; exact rfl; omega; omega)))
        apply WE.writ
        · (focus ((repeat (first | exact Writ.nil | apply Writ.some | apply Writ.none)); done))
        rw [← hn2]
        have hN0 := numOf_bd (r.take 2)
        rw [show (r.take 2).length = 2 by simp; omega] at hN0
        generalize hN : numOf (r.take 2) = N at hn2 hcf hN0
        clear hn2
        by_cases hbig : N > 1024
        · rw [hcf, if_pos hbig, if_pos (by simp)]
          repeat first
            | (apply WL.q; exact rfl; exact rfl; exact rfl; (first | (apply EvW.move; exact rfl) | (apply EvW.assign; exact rfl) | (apply EvW.extract; exact rfl; exact rfl) | (apply EvW.lenS; exact rfl; exact UndC.eq) | (apply EvW.cmpT; exact rfl; exact rfl; exact rfl; omega) | (apply EvW.cmpF; exact rfl; exact rfl; exact rfl; omega) | (apply EvW.cmp; exact rfl; exact rfl; exact rfl) | (apply EvW.arN; exact rfl; exact rfl; exact rfl; refine i64_in ?_ ?_ <;> omega) | (apply EvW.ar; exact rfl; exact rfl; exact rfl) | (apply EvW.convN; exact rfl; exact UndC.eq; exact UndC.eq; refine i64_in ?_ ?_ <;> omega) | (apply EvW.convW; exact rfl; exact UndC.eq; exact UndC.eq; exact of_decide_eq_true rfl) | (apply EvW.conv; exact rfl; exact UndC.eq; exact UndC.eq) | (apply EvW.pickT; exact rfl; exact rfl) | (apply EvW.pickF; exact rfl; exact rfl) | (apply EvW.sneS; exact rfl; exact rfl) | (apply EvW.sne; exact rfl; exact rfl) | (apply EvW.index; exact rfl; exact rfl; exact UndC.eq; omega; omega) | (apply EvW.sliceS; exact rfl; exact UndC.eq; exact rfl; exact rfl; omega; omega; omega) | (apply EvW.sliceS_lo; exact rfl; exact UndC.eq; exact rfl; omega; omega) | (apply EvW.sliceS_hi; exact rfl; exact UndC.eq; exact rfl; omega; omega)))
            | refine WC.seq ?_ | refine WC.region ?_ | refine WL.nil ?_ | refine WE.next ?_ | refine WC.skip ?_ | refine WC.exit ?_ | refine WE.pass ?_ | refine WE.hit ?_ | refine WE.miss rfl ?_ | refine WE.out ?_ | refine WC.condT rfl ?_ | refine WC.condF rfl ?_ | refine WC.ret ?_ | refine WE.passRet ?_ | refine WE.outRet ?_ | refine WL.wanted rfl rfl rfl ?_ | refine WL.unwanted rfl rfl rfl rfl ?_ | refine WL.unwantedU rfl rfl rfl rfl ?_ | refine WL.unwanted0 rfl rfl rfl ?_
          refine WE.retN (l := [4, 5, 6]) rfl rfl rfl ?_
          exact ⟨rfl, rfl⟩
        · by_cases hsh : (r.length : Int) < N + 6
          · rw [hcf, if_neg hbig, if_pos hsh, if_pos (by simp)]
            repeat first
              | (apply WL.q; exact rfl; exact rfl; exact rfl; (first | (apply EvW.move; exact rfl) | (apply EvW.assign; exact rfl) | (apply EvW.extract; exact rfl; exact rfl) | (apply EvW.lenS; exact rfl; exact UndC.eq) | (apply EvW.cmpT; exact rfl; exact rfl; exact rfl; omega) | (apply EvW.cmpF; exact rfl; exact rfl; exact rfl; omega) | (apply EvW.cmp; exact rfl; exact rfl; exact rfl) | (apply EvW.arN; exact rfl; exact rfl; exact rfl; refine i64_in ?_ ?_ <;> omega) | (apply EvW.ar; exact rfl; exact rfl; exact rfl) | (apply EvW.convN; exact rfl; exact UndC.eq; exact UndC.eq; refine i64_in ?_ ?_ <;> omega) | (apply EvW.convW; exact rfl; exact UndC.eq; exact UndC.eq; exact of_decide_eq_true rfl) | (apply EvW.conv; exact rfl; exact UndC.eq; exact UndC.eq) | (apply EvW.pickT; exact rfl; exact rfl) | (apply EvW.pickF; exact rfl; exact rfl) | (apply EvW.sneS; exact rfl; exact rfl) | (apply EvW.sne; exact rfl; exact rfl) | (apply EvW.index; exact rfl; exact rfl; exact UndC.eq; omega; omega) | (apply EvW.sliceS; exact rfl; exact UndC.eq; exact rfl; exact rfl; omega; omega; omega) | (apply EvW.sliceS_lo; exact rfl; exact UndC.eq; exact rfl; omega; omega) | (apply EvW.sliceS_hi; exact rfl; exact UndC.eq; exact rfl; omega; omega)))
              | refine WC.seq ?_ | refine WC.region ?_ | refine WL.nil ?_ | refine WE.next ?_ | refine WC.skip ?_ | refine WC.exit ?_ | refine WE.pass ?_ | refine WE.hit ?_ | refine WE.miss rfl ?_ | refine WE.out ?_ | refine WC.condT rfl ?_ | refine WC.condF rfl ?_ | refine WC.ret ?_ | refine WE.passRet ?_ | refine WE.outRet ?_ | refine WL.wanted rfl rfl rfl ?_ | refine WL.unwanted rfl rfl rfl rfl ?_ | refine WL.unwantedU rfl rfl rfl rfl ?_ | refine WL.unwanted0 rfl rfl rfl ?_
            refine WE.retN (l := [4, 5, 6]) rfl rfl rfl ?_
            exact ⟨rfl, rfl⟩
          · rw [hcf, if_neg hbig, if_neg hsh, if_neg (by simp)]
            repeat first
              | (apply WL.q; exact rfl; exact rfl; exact rfl; (first | (apply EvW.move; exact rfl) | (apply EvW.assign; exact rfl) | (apply EvW.extract; exact rfl; exact rfl) | (apply EvW.lenS; exact rfl; exact UndC.eq) | (apply EvW.cmpT; exact rfl; exact rfl; exact rfl; omega) | (apply EvW.cmpF; exact rfl; exact rfl; exact rfl; omega) | (apply EvW.cmp; exact rfl; exact rfl; exact rfl) | (apply EvW.arN; exact rfl; exact rfl; exact rfl; refine i64_in ?_ ?_ <;> omega) | (apply EvW.ar; exact rfl; exact rfl; exact rfl) | (apply EvW.convN; exact rfl; exact UndC.eq; exact UndC.eq; refine i64_in ?_ ?_ <;> omega) | (apply EvW.convW; exact rfl; exact UndC.eq; exact UndC.eq; exact of_decide_eq_true rfl) | (apply EvW.conv; exact rfl; exact UndC.eq; exact UndC.eq) | (apply EvW.pickT; exact rfl; exact rfl) | (apply EvW.pickF; exact rfl; exact rfl) | (apply EvW.sneS; exact rfl; exact rfl) | (apply EvW.sne; exact rfl; exact rfl) | (apply EvW.index; exact rfl; exact rfl; exact UndC.eq; omega; omega) | (apply EvW.sliceS; exact rfl; exact UndC.eq; exact rfl; exact rfl; omega; omega; omega) | (apply EvW.sliceS_lo; exact rfl; exact UndC.eq; exact rfl; omega; omega) | (apply EvW.sliceS_hi; exact rfl; exact UndC.eq; exact rfl; omega; omega)))
              | refine WC.seq ?_ | refine WC.region ?_ | refine WL.nil ?_ | refine WE.next ?_ | refine WC.skip ?_ | refine WC.exit ?_ | refine WE.pass ?_ | refine WE.hit ?_ | refine WE.miss rfl ?_ | refine WE.out ?_ | refine WC.condT rfl ?_ | refine WC.condF rfl ?_ | refine WC.ret ?_ | refine WE.passRet ?_ | refine WE.outRet ?_ | refine WL.wanted rfl rfl rfl ?_ | refine WL.unwanted rfl rfl rfl rfl ?_ | refine WL.unwantedU rfl rfl rfl rfl ?_ | refine WL.unwanted0 rfl rfl rfl ?_
            have hbl : ((r.take (N + 2).toNat).drop (2 : Int).toNat).length ≤ 1024 := by simp; omega
            try refine WL.wanted rfl rfl rfl ?_
            apply WL.callT
            · exact rfl
            · exact rfl
            · exact fun w1 S1 hS1 hs1 ho1 => rseal_spec ((r.take (N + 2).toNat).drop (2 : Int).toNat) w1 S1 hS1 (by omega)
            · exact fun w => Try.call35 _ w
            · (focus ((repeat (first | exact TakeL.nil | apply TakeL.cons | exact Take.head | apply Take.tail)); done))
            rintro _ _ ⟨rfl, rfl⟩
            first | refine WL.app4 ?_ | refine WL.app3 ?_ | refine WL.app2 ?_ | refine WL.app1 ?_ | refine WL.app0 ?_ | skip
            have hse : sealF ((r.take (N + 2).toNat).drop (2 : Int).toNat) = (frame ((r.take (N + 2).toNat).drop (2 : Int).toNat), 0) := by unfold sealF; rw [if_neg (by omega)]
            rw [hse]
            repeat first
              | (apply WL.q; exact rfl; exact rfl; exact rfl; (first | (apply EvW.move; exact rfl) | (apply EvW.assign; exact rfl) | (apply EvW.extract; exact rfl; exact rfl) | (apply EvW.lenS; exact rfl; exact UndC.eq) | (apply EvW.cmpT; exact rfl; exact rfl; exact rfl; omega) | (apply EvW.cmpF; exact rfl; exact rfl; exact rfl; omega) | (apply EvW.cmp; exact rfl; exact rfl; exact rfl) | (apply EvW.arN; exact rfl; exact rfl; exact rfl; refine i64_in ?_ ?_ <;> omega) | (apply EvW.ar; exact rfl; exact rfl; exact rfl) | (apply EvW.convN; exact rfl; exact UndC.eq; exact UndC.eq; refine i64_in ?_ ?_ <;> omega) | (apply EvW.convW; exact rfl; exact UndC.eq; exact UndC.eq; exact of_decide_eq_true rfl) | (apply EvW.conv; exact rfl; exact UndC.eq; exact UndC.eq) | (apply EvW.pickT; exact rfl; exact rfl) | (apply EvW.pickF; exact rfl; exact rfl) | (apply EvW.sneS; exact rfl; exact rfl) | (apply EvW.sne; exact rfl; exact rfl) | (apply EvW.index; exact rfl; exact rfl; exact UndC.eq; omega; omega) | (apply EvW.sliceS; exact rfl; exact UndC.eq; exact rfl; exact rfl; omega; omega; omega) | (apply EvW.sliceS_lo; exact rfl; exact UndC.eq; exact rfl; omega; omega) | (apply EvW.sliceS_hi; exact rfl; exact UndC.eq; exact rfl; omega; omega)))
              | refine WC.seq ?_ | refine WC.region ?_ | refine WL.nil ?_ | refine WE.next ?_ | refine WC.skip ?_ | refine WC.exit ?_ | refine WE.pass ?_ | refine WE.hit ?_ | refine WE.miss rfl ?_ | refine WE.out ?_ | refine WC.condT rfl ?_ | refine WC.condF rfl ?_ | refine WC.ret ?_ | refine WE.passRet ?_ | refine WE.outRet ?_ | refine WL.wanted rfl rfl rfl ?_ | refine WL.unwanted rfl rfl rfl rfl ?_ | refine WL.unwantedU rfl rfl rfl rfl ?_ | refine WL.unwanted0 rfl rfl rfl ?_
            obtain ⟨f, hf⟩ : ∃ f, r.take (N + 6).toNat = f := ⟨_, rfl⟩
            have hfl : (f.length : Int) = N + 6 := by rw [← hf, List.length_take]; omega
            have hx : (f.take (f.length - 4)).drop 2 = (r.take (N + 2).toNat).drop (2 : Int).toNat := by
              rw [← hf, List.take_take, hf]
              rw [show min (f.length - 4) (N + 6).toNat = (N + 2).toNat by omega]
              rfl
            obtain ⟨x, hx2⟩ : ∃ x, (r.take (N + 2).toNat).drop (2 : Int).toNat = x := ⟨_, rfl⟩
            rw [hx2] at hx hbl ⊢
            simp only [hf]
            have hft : numOf (f.take 2) = (f.length : Int) - 6 := by
              rw [← hf, List.take_take, hf, Nat.min_eq_left (by omega), hN]; omega
            by_cases hs : numOf (f.drop (f.length - 4)) = ((crc (f.take (f.length - 4))).toNat : Int)
            · have hB : bodyF f a = (x, a + f.length, 0) := by unfold bodyF; rw [if_neg (by rw [hs]; simp), hx]
              have hfr := (bodyF_ok (by omega) hft hB).1
              rw [hB, decide_eq_false (show ¬ frame x ≠ f from fun h => h hfr.symm)]
              repeat first
                | (apply WL.q; exact rfl; exact rfl; exact rfl; (first | (apply EvW.move; exact rfl) | (apply EvW.assign; exact rfl) | (apply EvW.extract; exact rfl; exact rfl) | (apply EvW.lenS; exact rfl; exact UndC.eq) | (apply EvW.cmpT; exact rfl; exact rfl; exact rfl; omega) | (apply EvW.cmpF; exact rfl; exact rfl; exact rfl; omega) | (apply EvW.cmp; exact rfl; exact rfl; exact rfl) | (apply EvW.arN; exact rfl; exact rfl; exact rfl; refine i64_in ?_ ?_ <;> omega) | (apply EvW.ar; exact rfl; exact rfl; exact rfl) | (apply EvW.convN; exact rfl; exact UndC.eq; exact UndC.eq; refine i64_in ?_ ?_ <;> omega) | (apply EvW.convW; exact rfl; exact UndC.eq; exact UndC.eq; exact of_decide_eq_true rfl) | (apply EvW.conv; exact rfl; exact UndC.eq; exact UndC.eq) | (apply EvW.pickT; exact rfl; exact rfl) | (apply EvW.pickF; exact rfl; exact rfl) | (apply EvW.sneS; exact rfl; exact rfl) | (apply EvW.sne; exact rfl; exact rfl) | (apply EvW.index; exact rfl; exact rfl; exact UndC.eq; omega; omega) | (apply EvW.sliceS; exact rfl; exact UndC.eq; exact rfl; exact rfl; omega; omega; omega) | (apply EvW.sliceS_lo; exact rfl; exact UndC.eq; exact rfl; omega; omega) | (apply EvW.sliceS_hi; exact rfl; exact UndC.eq; exact rfl; omega; omega)))
                | refine WC.seq ?_ | refine WC.region ?_ | refine WL.nil ?_ | refine WE.next ?_ | refine WC.skip ?_ | refine WC.exit ?_ | refine WE.pass ?_ | refine WE.hit ?_ | refine WE.miss rfl ?_ | refine WE.out ?_ | refine WC.condT rfl ?_ | refine WC.condF rfl ?_ | refine WC.ret ?_ | refine WE.passRet ?_ | refine WE.outRet ?_ | refine WL.wanted rfl rfl rfl ?_ | refine WL.unwanted rfl rfl rfl rfl ?_ | refine WL.unwantedU rfl rfl rfl rfl ?_ | refine WL.unwanted0 rfl rfl rfl ?_
              refine WE.retN (l := [4, 5, 6]) rfl rfl rfl ?_
              refine ⟨?_, rfl⟩
              simp only [hfl, Int.add_assoc]
            · have hB : bodyF f a = ([], 0, 4) := by unfold bodyF; rw [if_pos hs]
              have hfr : frame x ≠ f := by
                intro h
                have := bodyF_frame x a
                rw [h, hB] at this
                have h40 : (4 : Int) = 0 := congrArg (fun p => p.2.2) this
                omega
              rw [hB, decide_eq_true hfr]
              repeat first
                | (apply WL.q; exact rfl; exact rfl; exact rfl; (first | (apply EvW.move; exact rfl) | (apply EvW.assign; exact rfl) | (apply EvW.extract; exact rfl; exact rfl) | (apply EvW.lenS; exact rfl; exact UndC.eq) | (apply EvW.cmpT; exact rfl; exact rfl; exact rfl; omega) | (apply EvW.cmpF; exact rfl; exact rfl; exact rfl; omega) | (apply EvW.cmp; exact rfl; exact rfl; exact rfl) | (apply EvW.arN; exact rfl; exact rfl; exact rfl; refine i64_in ?_ ?_ <;> omega) | (apply EvW.ar; exact rfl; exact rfl; exact rfl) | (apply EvW.convN; exact rfl; exact UndC.eq; exact UndC.eq; refine i64_in ?_ ?_ <;> omega) | (apply EvW.convW; exact rfl; exact UndC.eq; exact UndC.eq; exact of_decide_eq_true rfl) | (apply EvW.conv; exact rfl; exact UndC.eq; exact UndC.eq) | (apply EvW.pickT; exact rfl; exact rfl) | (apply EvW.pickF; exact rfl; exact rfl) | (apply EvW.sneS; exact rfl; exact rfl) | (apply EvW.sne; exact rfl; exact rfl) | (apply EvW.index; exact rfl; exact rfl; exact UndC.eq; omega; omega) | (apply EvW.sliceS; exact rfl; exact UndC.eq; exact rfl; exact rfl; omega; omega; omega) | (apply EvW.sliceS_lo; exact rfl; exact UndC.eq; exact rfl; omega; omega) | (apply EvW.sliceS_hi; exact rfl; exact UndC.eq; exact rfl; omega; omega)))
                | refine WC.seq ?_ | refine WC.region ?_ | refine WL.nil ?_ | refine WE.next ?_ | refine WC.skip ?_ | refine WC.exit ?_ | refine WE.pass ?_ | refine WE.hit ?_ | refine WE.miss rfl ?_ | refine WE.out ?_ | refine WC.condT rfl ?_ | refine WC.condF rfl ?_ | refine WC.ret ?_ | refine WE.passRet ?_ | refine WE.outRet ?_ | refine WL.wanted rfl rfl rfl ?_ | refine WL.unwanted rfl rfl rfl rfl ?_ | refine WL.unwantedU rfl rfl rfl rfl ?_ | refine WL.unwanted0 rfl rfl rfl ?_
              refine WE.retN (l := [4, 5, 6]) rfl rfl rfl ?_
              exact ⟨rfl, rfl⟩
theorem nextF_zero (l : List UInt8) (h : (cutF l).2 = 0) : nextF l 0 = bodyF (l.take (cutF l).1.toNat) 0 := by
  unfold nextF
  rw [if_neg (by omega), show (0 : Int).toNat = 0 from rfl, List.drop_zero, if_neg (by simp [h])]
theorem nextF_zero' (l : List UInt8) (h : (cutF l).2 ≠ 0) : nextF l 0 = ([], 0, (cutF l).2) := by
  unfold nextF
  rw [if_neg (by omega), show (0 : Int).toNat = 0 from rfl, List.drop_zero, if_pos h]
theorem bodyF_e (f : List UInt8) (a : Int) : (bodyF f a).2.2 = 4 ∧ (bodyF f a).1 = [] ∨ (bodyF f a).2.2 = 0 ∧ (bodyF f a).2.1 = a + f.length := by
  unfold bodyF
  split
  · exact .inl ⟨rfl, rfl⟩
  · exact .inr ⟨rfl, rfl⟩
theorem ropen_spec (l : List UInt8) (w : World) (S : BSet) (hS : (sepL []).sat S w) (hl : l.length ≤ 1152921504606846976) :
    Tri Try.prog 41 #[str l] w S fun u A => u = .tuple #[str (openF l).1, i64 (openF l).2] ∧ A = [] := by
  refine Tri.enter (l := [str l]) Try.func41 rfl Try.ntmps41 rfl [(0, str l)] (subA rfl) hS ?_
  have hF : openF l = if (cutF l).2 ≠ 0 then ([], (cutF l).2) else if (cutF l).1 < l.length then ([], 3) else ((nextF l 0).1, (nextF l 0).2.2) := rfl
  rw [hF]
  rcases cutF_cases l with hc | hc | ⟨k, hc, h6, hkl, h1030, hn⟩
  · have hN := nextF_zero' l (by rw [hc]; simp)
    rw [hc] at hN ⊢
    rw [if_pos (by simp)]
    repeat first
      | (apply WL.q; exact rfl; exact rfl; exact rfl; (first | (apply EvW.move; exact rfl) | (apply EvW.assign; exact rfl) | (apply EvW.extract; exact rfl; exact rfl) | (apply EvW.lenS; exact rfl; exact UndC.eq) | (apply EvW.cmpT; exact rfl; exact rfl; exact rfl; omega) | (apply EvW.cmpF; exact rfl; exact rfl; exact rfl; omega) | (apply EvW.cmp; exact rfl; exact rfl; exact rfl) | (apply EvW.arN; exact rfl; exact rfl; exact rfl; refine i64_in ?_ ?_ <;> omega) | (apply EvW.ar; exact rfl; exact rfl; exact rfl) | (apply EvW.convN; exact rfl; exact UndC.eq; exact UndC.eq; refine i64_in ?_ ?_ <;> omega) | (apply EvW.convW; exact rfl; exact UndC.eq; exact UndC.eq; exact of_decide_eq_true rfl) | (apply EvW.conv; exact rfl; exact UndC.eq; exact UndC.eq) | (apply EvW.pickT; exact rfl; exact rfl) | (apply EvW.pickF; exact rfl; exact rfl) | (apply EvW.index; exact rfl; exact rfl; exact UndC.eq; omega; omega)))
      | refine WC.seq ?_ | refine WC.region ?_ | refine WL.nil ?_ | refine WE.next ?_ | refine WC.skip ?_ | refine WC.exit ?_ | refine WE.pass ?_ | refine WE.hit ?_ | refine WE.miss rfl ?_ | refine WE.out ?_ | refine WC.condT rfl ?_ | refine WC.condF rfl ?_ | refine WC.ret ?_ | refine WE.passRet ?_ | refine WE.outRet ?_ | refine WL.wanted rfl rfl rfl ?_ | refine WL.unwanted rfl rfl rfl rfl ?_ | refine WL.unwantedU rfl rfl rfl rfl ?_ | refine WL.unwanted0 rfl rfl rfl ?_
    try refine WL.wanted rfl rfl rfl ?_
    apply WL.callT
    · exact rfl
    · exact rfl
    · exact fun w1 S1 hS1 hs1 ho1 => rnext_spec l 0 w1 S1 hS1 hl
    · exact fun w => Try.call58 _ w
    · (focus ((repeat (first | exact TakeL.nil | apply TakeL.cons | exact Take.head | apply Take.tail)); done))
    rintro _ _ ⟨rfl, rfl⟩
    first | refine WL.app4 ?_ | refine WL.app3 ?_ | refine WL.app2 ?_ | refine WL.app1 ?_ | refine WL.app0 ?_ | skip
    rw [hN]
    repeat first
      | (apply WL.q; exact rfl; exact rfl; exact rfl; (first | (apply EvW.move; exact rfl) | (apply EvW.assign; exact rfl) | (apply EvW.extract; exact rfl; exact rfl) | (apply EvW.lenS; exact rfl; exact UndC.eq) | (apply EvW.cmpT; exact rfl; exact rfl; exact rfl; omega) | (apply EvW.cmpF; exact rfl; exact rfl; exact rfl; omega) | (apply EvW.cmp; exact rfl; exact rfl; exact rfl) | (apply EvW.arN; exact rfl; exact rfl; exact rfl; refine i64_in ?_ ?_ <;> omega) | (apply EvW.ar; exact rfl; exact rfl; exact rfl) | (apply EvW.convN; exact rfl; exact UndC.eq; exact UndC.eq; refine i64_in ?_ ?_ <;> omega) | (apply EvW.convW; exact rfl; exact UndC.eq; exact UndC.eq; exact of_decide_eq_true rfl) | (apply EvW.conv; exact rfl; exact UndC.eq; exact UndC.eq) | (apply EvW.pickT; exact rfl; exact rfl) | (apply EvW.pickF; exact rfl; exact rfl) | (apply EvW.index; exact rfl; exact rfl; exact UndC.eq; omega; omega)))
      | refine WC.seq ?_ | refine WC.region ?_ | refine WL.nil ?_ | refine WE.next ?_ | refine WC.skip ?_ | refine WC.exit ?_ | refine WE.pass ?_ | refine WE.hit ?_ | refine WE.miss rfl ?_ | refine WE.out ?_ | refine WC.condT rfl ?_ | refine WC.condF rfl ?_ | refine WC.ret ?_ | refine WE.passRet ?_ | refine WE.outRet ?_ | refine WL.wanted rfl rfl rfl ?_ | refine WL.unwanted rfl rfl rfl rfl ?_ | refine WL.unwantedU rfl rfl rfl rfl ?_ | refine WL.unwanted0 rfl rfl rfl ?_
    refine WE.retN (l := [2, 3]) rfl rfl rfl ?_
    exact ⟨rfl, rfl⟩
  · have hN := nextF_zero' l (by rw [hc]; simp)
    rw [hc] at hN ⊢
    rw [if_pos (by simp)]
    repeat first
      | (apply WL.q; exact rfl; exact rfl; exact rfl; (first | (apply EvW.move; exact rfl) | (apply EvW.assign; exact rfl) | (apply EvW.extract; exact rfl; exact rfl) | (apply EvW.lenS; exact rfl; exact UndC.eq) | (apply EvW.cmpT; exact rfl; exact rfl; exact rfl; omega) | (apply EvW.cmpF; exact rfl; exact rfl; exact rfl; omega) | (apply EvW.cmp; exact rfl; exact rfl; exact rfl) | (apply EvW.arN; exact rfl; exact rfl; exact rfl; refine i64_in ?_ ?_ <;> omega) | (apply EvW.ar; exact rfl; exact rfl; exact rfl) | (apply EvW.convN; exact rfl; exact UndC.eq; exact UndC.eq; refine i64_in ?_ ?_ <;> omega) | (apply EvW.convW; exact rfl; exact UndC.eq; exact UndC.eq; exact of_decide_eq_true rfl) | (apply EvW.conv; exact rfl; exact UndC.eq; exact UndC.eq) | (apply EvW.pickT; exact rfl; exact rfl) | (apply EvW.pickF; exact rfl; exact rfl) | (apply EvW.index; exact rfl; exact rfl; exact UndC.eq; omega; omega)))
      | refine WC.seq ?_ | refine WC.region ?_ | refine WL.nil ?_ | refine WE.next ?_ | refine WC.skip ?_ | refine WC.exit ?_ | refine WE.pass ?_ | refine WE.hit ?_ | refine WE.miss rfl ?_ | refine WE.out ?_ | refine WC.condT rfl ?_ | refine WC.condF rfl ?_ | refine WC.ret ?_ | refine WE.passRet ?_ | refine WE.outRet ?_ | refine WL.wanted rfl rfl rfl ?_ | refine WL.unwanted rfl rfl rfl rfl ?_ | refine WL.unwantedU rfl rfl rfl rfl ?_ | refine WL.unwanted0 rfl rfl rfl ?_
    try refine WL.wanted rfl rfl rfl ?_
    apply WL.callT
    · exact rfl
    · exact rfl
    · exact fun w1 S1 hS1 hs1 ho1 => rnext_spec l 0 w1 S1 hS1 hl
    · exact fun w => Try.call58 _ w
    · (focus ((repeat (first | exact TakeL.nil | apply TakeL.cons | exact Take.head | apply Take.tail)); done))
    rintro _ _ ⟨rfl, rfl⟩
    first | refine WL.app4 ?_ | refine WL.app3 ?_ | refine WL.app2 ?_ | refine WL.app1 ?_ | refine WL.app0 ?_ | skip
    rw [hN]
    repeat first
      | (apply WL.q; exact rfl; exact rfl; exact rfl; (first | (apply EvW.move; exact rfl) | (apply EvW.assign; exact rfl) | (apply EvW.extract; exact rfl; exact rfl) | (apply EvW.lenS; exact rfl; exact UndC.eq) | (apply EvW.cmpT; exact rfl; exact rfl; exact rfl; omega) | (apply EvW.cmpF; exact rfl; exact rfl; exact rfl; omega) | (apply EvW.cmp; exact rfl; exact rfl; exact rfl) | (apply EvW.arN; exact rfl; exact rfl; exact rfl; refine i64_in ?_ ?_ <;> omega) | (apply EvW.ar; exact rfl; exact rfl; exact rfl) | (apply EvW.convN; exact rfl; exact UndC.eq; exact UndC.eq; refine i64_in ?_ ?_ <;> omega) | (apply EvW.convW; exact rfl; exact UndC.eq; exact UndC.eq; exact of_decide_eq_true rfl) | (apply EvW.conv; exact rfl; exact UndC.eq; exact UndC.eq) | (apply EvW.pickT; exact rfl; exact rfl) | (apply EvW.pickF; exact rfl; exact rfl) | (apply EvW.index; exact rfl; exact rfl; exact UndC.eq; omega; omega)))
      | refine WC.seq ?_ | refine WC.region ?_ | refine WL.nil ?_ | refine WE.next ?_ | refine WC.skip ?_ | refine WC.exit ?_ | refine WE.pass ?_ | refine WE.hit ?_ | refine WE.miss rfl ?_ | refine WE.out ?_ | refine WC.condT rfl ?_ | refine WC.condF rfl ?_ | refine WC.ret ?_ | refine WE.passRet ?_ | refine WE.outRet ?_ | refine WL.wanted rfl rfl rfl ?_ | refine WL.unwanted rfl rfl rfl rfl ?_ | refine WL.unwantedU rfl rfl rfl rfl ?_ | refine WL.unwanted0 rfl rfl rfl ?_
    refine WE.retN (l := [2, 3]) rfl rfl rfl ?_
    exact ⟨rfl, rfl⟩
  · have hN := nextF_zero l (by rw [hc])
    rw [hc] at hN ⊢
    rw [if_neg (by simp)]
    simp only [Int.toNat_natCast] at hN
    have hn2 : numOf (l.take 2) = ((l.getD (0 : Int).toNat 0).toNat : Int) * 256 + (l.getD (1 : Int).toNat 0).toNat := numOf_two l (by omega)
    have hb0 := (l.getD (0 : Int).toNat 0).toNat_lt
    have hb1 := (l.getD (1 : Int).toNat 0).toNat_lt
    have hbe := bodyF_e (l.take k) 0
    have htk : (l.take k).length = k := by rw [List.length_take]; omega
    rw [← hN, htk] at hbe
    repeat first
      | (apply WL.q; exact rfl; exact rfl; exact rfl; (first | (apply EvW.move; exact rfl) | (apply EvW.assign; exact rfl) | (apply EvW.extract; exact rfl; exact rfl) | (apply EvW.lenS; exact rfl; exact UndC.eq) | (apply EvW.cmpT; exact rfl; exact rfl; exact rfl; omega) | (apply EvW.cmpF; exact rfl; exact rfl; exact rfl; omega) | (apply EvW.cmp; exact rfl; exact rfl; exact rfl) | (apply EvW.arN; exact rfl; exact rfl; exact rfl; refine i64_in ?_ ?_ <;> omega) | (apply EvW.ar; exact rfl; exact rfl; exact rfl) | (apply EvW.convN; exact rfl; exact UndC.eq; exact UndC.eq; refine i64_in ?_ ?_ <;> omega) | (apply EvW.convW; exact rfl; exact UndC.eq; exact UndC.eq; exact of_decide_eq_true rfl) | (apply EvW.conv; exact rfl; exact UndC.eq; exact UndC.eq) | (apply EvW.pickT; exact rfl; exact rfl) | (apply EvW.pickF; exact rfl; exact rfl) | (apply EvW.index; exact rfl; exact rfl; exact UndC.eq; omega; omega)))
      | refine WC.seq ?_ | refine WC.region ?_ | refine WL.nil ?_ | refine WE.next ?_ | refine WC.skip ?_ | refine WC.exit ?_ | refine WE.pass ?_ | refine WE.hit ?_ | refine WE.miss rfl ?_ | refine WE.out ?_ | refine WC.condT rfl ?_ | refine WC.condF rfl ?_ | refine WC.ret ?_ | refine WE.passRet ?_ | refine WE.outRet ?_ | refine WL.wanted rfl rfl rfl ?_ | refine WL.unwanted rfl rfl rfl rfl ?_ | refine WL.unwantedU rfl rfl rfl rfl ?_ | refine WL.unwanted0 rfl rfl rfl ?_
    try refine WL.wanted rfl rfl rfl ?_
    apply WL.callT
    · exact rfl
    · exact rfl
    · exact fun w1 S1 hS1 hs1 ho1 => rnext_spec l 0 w1 S1 hS1 hl
    · exact fun w => Try.call58 _ w
    · (focus ((repeat (first | exact TakeL.nil | apply TakeL.cons | exact Take.head | apply Take.tail)); done))
    rintro _ _ ⟨rfl, rfl⟩
    first | refine WL.app4 ?_ | refine WL.app3 ?_ | refine WL.app2 ?_ | refine WL.app1 ?_ | refine WL.app0 ?_ | skip
    generalize nextF l 0 = q at hbe
    obtain ⟨q1, q2, q3⟩ := q
    simp only [] at hbe ⊢
    have hq1 : ¬ q3 = 1 := by omega
    have hq2 : ¬ q3 = 2 := by omega
    repeat first
      | (apply WL.q; exact rfl; exact rfl; exact rfl; (first | (apply EvW.move; exact rfl) | (apply EvW.assign; exact rfl) | (apply EvW.extract; exact rfl; exact rfl) | (apply EvW.lenS; exact rfl; exact UndC.eq) | (apply EvW.cmpT; exact rfl; exact rfl; exact rfl; omega) | (apply EvW.cmpF; exact rfl; exact rfl; exact rfl; omega) | (apply EvW.cmp; exact rfl; exact rfl; exact rfl) | (apply EvW.arN; exact rfl; exact rfl; exact rfl; refine i64_in ?_ ?_ <;> omega) | (apply EvW.ar; exact rfl; exact rfl; exact rfl) | (apply EvW.convN; exact rfl; exact UndC.eq; exact UndC.eq; refine i64_in ?_ ?_ <;> omega) | (apply EvW.convW; exact rfl; exact UndC.eq; exact UndC.eq; exact of_decide_eq_true rfl) | (apply EvW.conv; exact rfl; exact UndC.eq; exact UndC.eq) | (apply EvW.pickT; exact rfl; exact rfl) | (apply EvW.pickF; exact rfl; exact rfl) | (apply EvW.index; exact rfl; exact rfl; exact UndC.eq; omega; omega)))
      | refine WC.seq ?_ | refine WC.region ?_ | refine WL.nil ?_ | refine WE.next ?_ | refine WC.skip ?_ | refine WC.exit ?_ | refine WE.pass ?_ | refine WE.hit ?_ | refine WE.miss rfl ?_ | refine WE.out ?_ | refine WC.condT rfl ?_ | refine WC.condF rfl ?_ | refine WC.ret ?_ | refine WE.passRet ?_ | refine WE.outRet ?_ | refine WL.wanted rfl rfl rfl ?_ | refine WL.unwanted rfl rfl rfl rfl ?_ | refine WL.unwantedU rfl rfl rfl rfl ?_ | refine WL.unwanted0 rfl rfl rfl ?_
    repeat refine WC.seq ?_
    apply WC.drawQ Try.mixed
    · (focus ((repeat (first | exact Restr.nil | (apply Restr.keep; exact rfl; exact rfl) | (apply Restr.drop; exact rfl))); done))
    · exact rfl
    · decide +kernel
    · decide +kernel
    · repeat first
        | exact Draws.nil
        | (apply Draws.skip; exact rfl; exact rfl)
        | (apply Draws.q0; exact rfl
           (first | (apply EvW.move; exact rfl) | (apply EvW.assign; exact rfl) | (apply EvW.extract; exact rfl; exact rfl) | (apply EvW.lenS; exact rfl; exact UndC.eq) | (apply EvW.cmpT; exact rfl; exact rfl; exact rfl; omega) | (apply EvW.cmpF; exact rfl; exact rfl; exact rfl; omega) | (apply EvW.cmp; exact rfl; exact rfl; exact rfl) | (apply EvW.arN; exact rfl; exact rfl; exact rfl; refine i64_in ?_ ?_ <;> omega) | (apply EvW.ar; exact rfl; exact rfl; exact rfl) | (apply EvW.convN; exact rfl; exact UndC.eq; exact UndC.eq; refine i64_in ?_ ?_ <;> omega) | (apply EvW.convW; exact rfl; exact UndC.eq; exact UndC.eq; exact of_decide_eq_true rfl) | (apply EvW.conv; exact rfl; exact UndC.eq; exact UndC.eq) | (apply EvW.pickT; exact rfl; exact rfl) | (apply EvW.pickF; exact rfl; exact rfl) | (apply EvW.index; exact rfl; exact rfl; exact UndC.eq; omega; omega)))
    apply WE.writ
    · (focus ((repeat (first | exact Writ.nil | apply Writ.some | apply Writ.none)); done))
    by_cases hlt : (k : Int) < l.length
    · rw [if_pos hlt]
      repeat first
        | (apply WL.q; exact rfl; exact rfl; exact rfl; (first | (apply EvW.move; exact rfl) | (apply EvW.assign; exact rfl) | (apply EvW.extract; exact rfl; exact rfl) | (apply EvW.lenS; exact rfl; exact UndC.eq) | (apply EvW.cmpT; exact rfl; exact rfl; exact rfl; omega) | (apply EvW.cmpF; exact rfl; exact rfl; exact rfl; omega) | (apply EvW.cmp; exact rfl; exact rfl; exact rfl) | (apply EvW.arN; exact rfl; exact rfl; exact rfl; refine i64_in ?_ ?_ <;> omega) | (apply EvW.ar; exact rfl; exact rfl; exact rfl) | (apply EvW.convN; exact rfl; exact UndC.eq; exact UndC.eq; refine i64_in ?_ ?_ <;> omega) | (apply EvW.convW; exact rfl; exact UndC.eq; exact UndC.eq; exact of_decide_eq_true rfl) | (apply EvW.conv; exact rfl; exact UndC.eq; exact UndC.eq) | (apply EvW.pickT; exact rfl; exact rfl) | (apply EvW.pickF; exact rfl; exact rfl) | (apply EvW.index; exact rfl; exact rfl; exact UndC.eq; omega; omega)))
        | refine WC.seq ?_ | refine WC.region ?_ | refine WL.nil ?_ | refine WE.next ?_ | refine WC.skip ?_ | refine WC.exit ?_ | refine WE.pass ?_ | refine WE.hit ?_ | refine WE.miss rfl ?_ | refine WE.out ?_ | refine WC.condT rfl ?_ | refine WC.condF rfl ?_ | refine WC.ret ?_ | refine WE.passRet ?_ | refine WE.outRet ?_ | refine WL.wanted rfl rfl rfl ?_ | refine WL.unwanted rfl rfl rfl rfl ?_ | refine WL.unwantedU rfl rfl rfl rfl ?_ | refine WL.unwanted0 rfl rfl rfl ?_
      refine WE.retN (l := [2, 3]) rfl rfl rfl ?_
      exact ⟨rfl, rfl⟩
    · rw [if_neg hlt]
      rcases hbe with ⟨rfl, rfl⟩ | ⟨rfl, rfl⟩
      · repeat first
          | (apply WL.q; exact rfl; exact rfl; exact rfl; (first | (apply EvW.move; exact rfl) | (apply EvW.assign; exact rfl) | (apply EvW.extract; exact rfl; exact rfl) | (apply EvW.lenS; exact rfl; exact UndC.eq) | (apply EvW.cmpT; exact rfl; exact rfl; exact rfl; omega) | (apply EvW.cmpF; exact rfl; exact rfl; exact rfl; omega) | (apply EvW.cmp; exact rfl; exact rfl; exact rfl) | (apply EvW.arN; exact rfl; exact rfl; exact rfl; refine i64_in ?_ ?_ <;> omega) | (apply EvW.ar; exact rfl; exact rfl; exact rfl) | (apply EvW.convN; exact rfl; exact UndC.eq; exact UndC.eq; refine i64_in ?_ ?_ <;> omega) | (apply EvW.convW; exact rfl; exact UndC.eq; exact UndC.eq; exact of_decide_eq_true rfl) | (apply EvW.conv; exact rfl; exact UndC.eq; exact UndC.eq) | (apply EvW.pickT; exact rfl; exact rfl) | (apply EvW.pickF; exact rfl; exact rfl) | (apply EvW.index; exact rfl; exact rfl; exact UndC.eq; omega; omega)))
          | refine WC.seq ?_ | refine WC.region ?_ | refine WL.nil ?_ | refine WE.next ?_ | refine WC.skip ?_ | refine WC.exit ?_ | refine WE.pass ?_ | refine WE.hit ?_ | refine WE.miss rfl ?_ | refine WE.out ?_ | refine WC.condT rfl ?_ | refine WC.condF rfl ?_ | refine WC.ret ?_ | refine WE.passRet ?_ | refine WE.outRet ?_ | refine WL.wanted rfl rfl rfl ?_ | refine WL.unwanted rfl rfl rfl rfl ?_ | refine WL.unwantedU rfl rfl rfl rfl ?_ | refine WL.unwanted0 rfl rfl rfl ?_
        refine WE.retN (l := [2, 3]) rfl rfl rfl ?_
        exact ⟨rfl, rfl⟩
      · repeat first
          | (apply WL.q; exact rfl; exact rfl; exact rfl; (first | (apply EvW.move; exact rfl) | (apply EvW.assign; exact rfl) | (apply EvW.extract; exact rfl; exact rfl) | (apply EvW.lenS; exact rfl; exact UndC.eq) | (apply EvW.cmpT; exact rfl; exact rfl; exact rfl; omega) | (apply EvW.cmpF; exact rfl; exact rfl; exact rfl; omega) | (apply EvW.cmp; exact rfl; exact rfl; exact rfl) | (apply EvW.arN; exact rfl; exact rfl; exact rfl; refine i64_in ?_ ?_ <;> omega) | (apply EvW.ar; exact rfl; exact rfl; exact rfl) | (apply EvW.convN; exact rfl; exact UndC.eq; exact UndC.eq; refine i64_in ?_ ?_ <;> omega) | (apply EvW.convW; exact rfl; exact UndC.eq; exact UndC.eq; exact of_decide_eq_true rfl) | (apply EvW.conv; exact rfl; exact UndC.eq; exact UndC.eq) | (apply EvW.pickT; exact rfl; exact rfl) | (apply EvW.pickF; exact rfl; exact rfl) | (apply EvW.index; exact rfl; exact rfl; exact UndC.eq; omega; omega)))
          | refine WC.seq ?_ | refine WC.region ?_ | refine WL.nil ?_ | refine WE.next ?_ | refine WC.skip ?_ | refine WC.exit ?_ | refine WE.pass ?_ | refine WE.hit ?_ | refine WE.miss rfl ?_ | refine WE.out ?_ | refine WC.condT rfl ?_ | refine WC.condF rfl ?_ | refine WC.ret ?_ | refine WE.passRet ?_ | refine WE.outRet ?_ | refine WL.wanted rfl rfl rfl ?_ | refine WL.unwanted rfl rfl rfl rfl ?_ | refine WL.unwantedU rfl rfl rfl rfl ?_ | refine WL.unwanted0 rfl rfl rfl ?_
        refine WE.retN (l := [2, 3]) rfl rfl rfl ?_
        exact ⟨rfl, rfl⟩
end Go.Proofs.Ytgcpoehchohleaa
