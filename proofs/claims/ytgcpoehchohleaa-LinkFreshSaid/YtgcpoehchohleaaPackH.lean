/- The reader's numbers and texts; what is written is read again. -/
import Derived.Test.YtgcpoehchohleaaPackF
namespace Go.Proofs.Ytgcpoehchohleaa
open Go.RowKit Go.BK

def PR.num (m : PR) (k : Nat) : Int × PR := (numOf (m.take 0 k).1, (m.take 0 k).2)
def PR.text (m : PR) : List UInt8 × PR := if m.s = [] then ([], m.note 1) else m.take 1 (m.s.getD 0 0).toNat
theorem rbyte_spec (b : Nat) (m : PR) (w : World) (S : BSet) (hS : (sepL [.blk b #[i64 (m).e, str (m).s] 98]).sat S w) (hl : m.s.length ≤ 1152921504606846976) :
    Tri Try.prog 38 #[ptr b 0] w S fun u A => u = i64 (m.num 1).1 ∧ A = [.blk b #[i64 ((m.num 1).2).e, str ((m.num 1).2).s] 98] := by
  refine Tri.enter (l := [ptr b 0]) Try.func38 rfl Try.ntmps38 rfl [(0, ptr b 0)] (subA rfl) hS ?_
  repeat first
    | (apply WL.q; exact rfl; exact rfl; exact rfl; (first | (apply EvW.move; exact rfl) | (apply EvW.assign; exact rfl)))
    | refine WC.seq ?_ | refine WC.region ?_ | refine WL.nil ?_ | refine WE.next ?_ | refine WC.skip ?_ | refine WC.exit ?_ | refine WE.pass ?_ | refine WE.hit ?_ | refine WE.miss rfl ?_ | refine WE.out ?_ | refine WC.ret ?_ | refine WE.passRet ?_ | refine WE.outRet ?_ | refine WL.wanted rfl rfl rfl ?_
  try refine WL.wanted rfl rfl rfl ?_
  apply WL.callT
  · exact rfl
  · exact rfl
  · exact fun w1 S1 hS1 hs1 ho1 => rfixed_spec b m 1 (by decide) w1 S1 hS1 hl
  · exact fun w => Try.call57 _ w
  · (focus ((repeat (first | exact TakeL.nil | apply TakeL.cons | exact Take.head | apply Take.tail)); done))
  rintro _ _ ⟨rfl, rfl⟩
  first | refine WL.app4 ?_ | refine WL.app3 ?_ | refine WL.app2 ?_ | refine WL.app1 ?_ | refine WL.app0 ?_ | skip
  repeat first
    | (apply WL.q; exact rfl; exact rfl; exact rfl; (first | (apply EvW.move; exact rfl) | (apply EvW.assign; exact rfl)))
    | refine WC.seq ?_ | refine WC.region ?_ | refine WL.nil ?_ | refine WE.next ?_ | refine WC.skip ?_ | refine WC.exit ?_ | refine WE.pass ?_ | refine WE.hit ?_ | refine WE.miss rfl ?_ | refine WE.out ?_ | refine WC.ret ?_ | refine WE.passRet ?_ | refine WE.outRet ?_ | refine WL.wanted rfl rfl rfl ?_
  refine WE.ret1 rfl rfl ?_
  exact ⟨rfl, rfl⟩
theorem rword_spec (b : Nat) (m : PR) (w : World) (S : BSet) (hS : (sepL [.blk b #[i64 (m).e, str (m).s] 98]).sat S w) (hl : m.s.length ≤ 1152921504606846976) :
    Tri Try.prog 39 #[ptr b 0] w S fun u A => u = i64 (m.num 2).1 ∧ A = [.blk b #[i64 ((m.num 2).2).e, str ((m.num 2).2).s] 98] := by
  refine Tri.enter (l := [ptr b 0]) Try.func39 rfl Try.ntmps39 rfl [(0, ptr b 0)] (subA rfl) hS ?_
  repeat first
    | (apply WL.q; exact rfl; exact rfl; exact rfl; (first | (apply EvW.move; exact rfl) | (apply EvW.assign; exact rfl)))
    | refine WC.seq ?_ | refine WC.region ?_ | refine WL.nil ?_ | refine WE.next ?_ | refine WC.skip ?_ | refine WC.exit ?_ | refine WE.pass ?_ | refine WE.hit ?_ | refine WE.miss rfl ?_ | refine WE.out ?_ | refine WC.ret ?_ | refine WE.passRet ?_ | refine WE.outRet ?_ | refine WL.wanted rfl rfl rfl ?_
  try refine WL.wanted rfl rfl rfl ?_
  apply WL.callT
  · exact rfl
  · exact rfl
  · exact fun w1 S1 hS1 hs1 ho1 => rfixed_spec b m 2 (by decide) w1 S1 hS1 hl
  · exact fun w => Try.call57 _ w
  · (focus ((repeat (first | exact TakeL.nil | apply TakeL.cons | exact Take.head | apply Take.tail)); done))
  rintro _ _ ⟨rfl, rfl⟩
  first | refine WL.app4 ?_ | refine WL.app3 ?_ | refine WL.app2 ?_ | refine WL.app1 ?_ | refine WL.app0 ?_ | skip
  repeat first
    | (apply WL.q; exact rfl; exact rfl; exact rfl; (first | (apply EvW.move; exact rfl) | (apply EvW.assign; exact rfl)))
    | refine WC.seq ?_ | refine WC.region ?_ | refine WL.nil ?_ | refine WE.next ?_ | refine WC.skip ?_ | refine WC.exit ?_ | refine WE.pass ?_ | refine WE.hit ?_ | refine WE.miss rfl ?_ | refine WE.out ?_ | refine WC.ret ?_ | refine WE.passRet ?_ | refine WE.outRet ?_ | refine WL.wanted rfl rfl rfl ?_
  refine WE.ret1 rfl rfl ?_
  exact ⟨rfl, rfl⟩
theorem rlong_spec (b : Nat) (m : PR) (w : World) (S : BSet) (hS : (sepL [.blk b #[i64 (m).e, str (m).s] 98]).sat S w) (hl : m.s.length ≤ 1152921504606846976) :
    Tri Try.prog 40 #[ptr b 0] w S fun u A => u = i64 (m.num 4).1 ∧ A = [.blk b #[i64 ((m.num 4).2).e, str ((m.num 4).2).s] 98] := by
  refine Tri.enter (l := [ptr b 0]) Try.func40 rfl Try.ntmps40 rfl [(0, ptr b 0)] (subA rfl) hS ?_
  repeat first
    | (apply WL.q; exact rfl; exact rfl; exact rfl; (first | (apply EvW.move; exact rfl) | (apply EvW.assign; exact rfl)))
    | refine WC.seq ?_ | refine WC.region ?_ | refine WL.nil ?_ | refine WE.next ?_ | refine WC.skip ?_ | refine WC.exit ?_ | refine WE.pass ?_ | refine WE.hit ?_ | refine WE.miss rfl ?_ | refine WE.out ?_ | refine WC.ret ?_ | refine WE.passRet ?_ | refine WE.outRet ?_ | refine WL.wanted rfl rfl rfl ?_
  try refine WL.wanted rfl rfl rfl ?_
  apply WL.callT
  · exact rfl
  · exact rfl
  · exact fun w1 S1 hS1 hs1 ho1 => rfixed_spec b m 4 (by decide) w1 S1 hS1 hl
  · exact fun w => Try.call57 _ w
  · (focus ((repeat (first | exact TakeL.nil | apply TakeL.cons | exact Take.head | apply Take.tail)); done))
  rintro _ _ ⟨rfl, rfl⟩
  first | refine WL.app4 ?_ | refine WL.app3 ?_ | refine WL.app2 ?_ | refine WL.app1 ?_ | refine WL.app0 ?_ | skip
  repeat first
    | (apply WL.q; exact rfl; exact rfl; exact rfl; (first | (apply EvW.move; exact rfl) | (apply EvW.assign; exact rfl)))
    | refine WC.seq ?_ | refine WC.region ?_ | refine WL.nil ?_ | refine WE.next ?_ | refine WC.skip ?_ | refine WC.exit ?_ | refine WE.pass ?_ | refine WE.hit ?_ | refine WE.miss rfl ?_ | refine WE.out ?_ | refine WC.ret ?_ | refine WE.passRet ?_ | refine WE.outRet ?_ | refine WL.wanted rfl rfl rfl ?_
  refine WE.ret1 rfl rfl ?_
  exact ⟨rfl, rfl⟩
theorem bytOf_nat (x : Int) : ((bytOf x).toNat : Int) = x % 256 := by
  have h := byt_of x
  simp only [byt, Value.int.injEq, true_and] at h
  rw [h]
  simp [IntKind.wrap, IntKind.signed, IntKind.bits]
theorem fdiv_two (n : Int) (k : Nat) : n.fdiv (2 ^ k) = n / 2 ^ k := Int.fdiv_eq_ediv_of_nonneg _ (Int.le_of_lt (Int.pow_pos (by decide)))
theorem numOf_be1 (n : Int) (h0 : 0 ≤ n) (h1 : n < 256) : numOf (be 1 n) = n := by
  simp [be, List.range_succ, numOf, bytOf_nat, fdiv_two]; omega
theorem numOf_be2 (n : Int) (h0 : 0 ≤ n) (h1 : n < 65536) : numOf (be 2 n) = n := by
  simp [be, List.range_succ, numOf, bytOf_nat, fdiv_two]; omega
theorem numOf_be4 (n : Int) (h0 : 0 ≤ n) (h1 : n < 4294967296) : numOf (be 4 n) = n := by
  simp [be, List.range_succ, numOf, bytOf_nat, fdiv_two]; omega
theorem num_fit (k : Nat) (n : Int) (h0 : 0 ≤ n) (h1 : n < 2 ^ (8 * k)) : (PW.init k).num k n = ⟨0, be k n, k⟩ := by
  unfold PW.num
  rw [if_neg]
  · unfold PW.put
    rw [be_length, if_neg (by simp [PW.init]), if_pos (show (PW.init (k : Int)).e = 0 from rfl)]
    simp only [PW.add, PW.init, List.nil_append, PW.mk.injEq, true_and]
    omega
  · intro h
    rcases h with h | h
    · omega
    · apply h
      rw [fdiv_two]
      exact Int.ediv_eq_zero_of_lt h0 h1
theorem read_all (l : List UInt8) (k : Nat) (h : l.length = k) : (PR.mk 0 l).num k = (numOf l, ⟨0, []⟩) := by
  unfold PR.num PR.take
  subst h
  simp
theorem read_short (l : List UInt8) (k : Nat) (h : l.length < k) : (PR.mk 0 l).num k = (0, ⟨1, l⟩) := by
  unfold PR.num PR.take
  simp [h, PR.note, numOf]
end Go.Proofs.Ytgcpoehchohleaa
