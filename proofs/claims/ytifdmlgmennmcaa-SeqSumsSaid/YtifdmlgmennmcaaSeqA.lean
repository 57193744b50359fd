/- Walks of package seq. -/
import Derived.Test.YtifdmlgmennmcaaRows
import Derived.Test.YtifdmlgmennmcaaLibK
import Derived.Test.YtifdmlgmennmcaaFacts
namespace Go.Proofs.Ytifdmlgmennmcaa
open Go.RowKit Go.BK

theorem Try.mixed : Try.prog.follows .mixedOrders = true := Checked.mixed Try.checked
def sg (a b : Int) : Int := (b - a + 32768) % 65536 - 32768
def lostStep (s : Int × Int) (x : Int) : Int × Int := if 0 < sg s.1 x then (x, s.2 + (sg s.1 x - 1)) else s
def lost : List Int → Int
  | [] => 0
  | x :: r => (r.foldl lostStep (x, 0)).2
theorem w_u16 (n : Int) : IntKind.u16.wrap n = n % 65536 := by unfold IntKind.wrap; simp only [IntKind.bits, IntKind.signed, Bool.false_and, Bool.false_eq_true, ↓reduceIte]; rfl
theorem w_i16 (n : Int) : IntKind.i16.wrap n = (n + 32768) % 65536 - 32768 := by
  simp only [IntKind.wrap, IntKind.bits, IntKind.signed, Bool.true_and]
  split <;> rename_i h <;> (try simp only [decide_eq_true_eq, ge_iff_le] at h) <;> omega
theorem w_i64 (n : Int) (h1 : -9223372036854775808 ≤ n) (h2 : n ≤ 9223372036854775807) : IntKind.i64.wrap n = n := wrap_in _ (i64_in h1 h2)

theorem of_spec (n : Int) (w : World) (S : BSet) (hS : (sepL []).sat S w) :
    Tri Try.prog 10 #[i64 n] w S fun v A => v = i64 (n % 65536) ∧ A = [] := by
  refine Tri.enter (l := [i64 n]) Try.func10 rfl Try.ntmps10 rfl [(0, i64 n)] (subA rfl) hS ?_
  repeat first
    | (apply WL.q; exact rfl; exact rfl; exact rfl; (first | (apply EvW.move; exact rfl) | (apply EvW.assign; exact rfl) | (apply EvW.convN; exact rfl; exact UndC.eq; exact UndC.eq; (first | (refine i64_in ?_ ?_ <;> omega) | (constructor <;> simp only [IntKind.min, IntKind.max, IntKind.signed, IntKind.bits, ↓reduceIte, Bool.false_eq_true] <;> omega))) | (apply EvW.convW; exact rfl; exact UndC.eq; exact UndC.eq; exact of_decide_eq_true rfl) | (apply EvW.conv; exact rfl; exact UndC.eq; exact UndC.eq)))
    | refine WC.seq ?_ | refine WC.region ?_ | refine WL.nil ?_ | refine WE.next ?_ | refine WC.skip ?_ | refine WC.exit ?_ | refine WE.pass ?_ | refine WE.hit ?_ | refine WE.miss rfl ?_ | refine WE.out ?_ | refine WC.ret ?_ | refine WE.passRet ?_ | refine WE.outRet ?_ | refine WL.wanted rfl rfl rfl ?_
  refine WE.ret1 rfl rfl ?_
  rw [w_u16]; exact ⟨rfl, rfl⟩
theorem next_spec (n : Int) (w : World) (S : BSet) (hS : (sepL []).sat S w) :
    Tri Try.prog 12 #[i64 n] w S fun v A => v = i64 ((n + 1) % 65536) ∧ A = [] := by
  refine Tri.enter (l := [i64 n]) Try.func12 rfl Try.ntmps12 rfl [(0, i64 n)] (subA rfl) hS ?_
  repeat first
    | (apply WL.q; exact rfl; exact rfl; exact rfl; (first | (apply EvW.move; exact rfl) | (apply EvW.assign; exact rfl) | (apply EvW.arN; exact rfl; exact rfl; exact rfl; (first | (refine i64_in ?_ ?_ <;> omega) | (constructor <;> simp only [IntKind.min, IntKind.max, IntKind.signed, IntKind.bits, ↓reduceIte, Bool.false_eq_true] <;> omega))) | (apply EvW.ar; exact rfl; exact rfl; exact rfl) | (apply EvW.convN; exact rfl; exact UndC.eq; exact UndC.eq; (first | (refine i64_in ?_ ?_ <;> omega) | (constructor <;> simp only [IntKind.min, IntKind.max, IntKind.signed, IntKind.bits, ↓reduceIte, Bool.false_eq_true] <;> omega))) | (apply EvW.convW; exact rfl; exact UndC.eq; exact UndC.eq; exact of_decide_eq_true rfl) | (apply EvW.conv; exact rfl; exact UndC.eq; exact UndC.eq)))
    | refine WC.seq ?_ | refine WC.region ?_ | refine WL.nil ?_ | refine WE.next ?_ | refine WC.skip ?_ | refine WC.exit ?_ | refine WE.pass ?_ | refine WE.hit ?_ | refine WE.miss rfl ?_ | refine WE.out ?_ | refine WC.ret ?_ | refine WE.passRet ?_ | refine WE.outRet ?_ | refine WL.wanted rfl rfl rfl ?_
  refine WE.ret1 rfl rfl ?_
  rw [w_u16, w_u16]; exact ⟨by congr 1; omega, rfl⟩
theorem gap_spec (a b : Int) (w : World) (S : BSet) (hS : (sepL []).sat S w) :
    Tri Try.prog 13 #[i64 a, i64 b] w S fun v A => v = i64 (sg a b) ∧ A = [] := by
  refine Tri.enter (l := [i64 a, i64 b]) Try.func13 rfl Try.ntmps13 rfl [(0, i64 a), (1, i64 b)] (subA rfl) hS ?_
  repeat first
    | (apply WL.q; exact rfl; exact rfl; exact rfl; (first | (apply EvW.move; exact rfl) | (apply EvW.assign; exact rfl) | (apply EvW.arN; exact rfl; exact rfl; exact rfl; (first | (refine i64_in ?_ ?_ <;> omega) | (constructor <;> simp only [IntKind.min, IntKind.max, IntKind.signed, IntKind.bits, ↓reduceIte, Bool.false_eq_true] <;> omega))) | (apply EvW.ar; exact rfl; exact rfl; exact rfl) | (apply EvW.convN; exact rfl; exact UndC.eq; exact UndC.eq; (first | (refine i64_in ?_ ?_ <;> omega) | (constructor <;> simp only [IntKind.min, IntKind.max, IntKind.signed, IntKind.bits, ↓reduceIte, Bool.false_eq_true] <;> omega))) | (apply EvW.convW; exact rfl; exact UndC.eq; exact UndC.eq; exact of_decide_eq_true rfl) | (apply EvW.conv; exact rfl; exact UndC.eq; exact UndC.eq)))
    | refine WC.seq ?_ | refine WC.region ?_ | refine WL.nil ?_ | refine WE.next ?_ | refine WC.skip ?_ | refine WC.exit ?_ | refine WE.pass ?_ | refine WE.hit ?_ | refine WE.miss rfl ?_ | refine WE.out ?_ | refine WC.ret ?_ | refine WE.passRet ?_ | refine WE.outRet ?_ | refine WL.wanted rfl rfl rfl ?_
  refine WE.ret1 rfl rfl ?_
  rw [w_u16, w_u16, w_u16, w_i16]; exact ⟨by congr 1; unfold sg; omega, rfl⟩
theorem newer_spec (a b : Int) (w : World) (S : BSet) (hS : (sepL []).sat S w) :
    Tri Try.prog 15 #[i64 a, i64 b] w S fun v A => v = .bool (decide (0 < sg a b)) ∧ A = [] := by
  refine Tri.enter (l := [i64 a, i64 b]) Try.func15 rfl Try.ntmps15 rfl [(0, i64 a), (1, i64 b)] (subA rfl) hS ?_
  repeat first
    | (apply WL.q; exact rfl; exact rfl; exact rfl; (first | (apply EvW.move; exact rfl) | (apply EvW.assign; exact rfl) | (apply EvW.cmpT; exact rfl; exact rfl; exact rfl; omega) | (apply EvW.cmpF; exact rfl; exact rfl; exact rfl; omega) | (apply EvW.cmp; exact rfl; exact rfl; exact rfl)))
    | refine WC.seq ?_ | refine WC.region ?_ | refine WL.nil ?_ | refine WE.next ?_ | refine WC.skip ?_ | refine WC.exit ?_ | refine WE.pass ?_ | refine WE.hit ?_ | refine WE.miss rfl ?_ | refine WE.out ?_ | refine WC.ret ?_ | refine WE.passRet ?_ | refine WE.outRet ?_ | refine WL.wanted rfl rfl rfl ?_
  try refine WL.wanted rfl rfl rfl ?_
  apply WL.callT
  · exact rfl
  · exact rfl
  · exact fun w1 S1 hS1 hs1 ho1 => gap_spec a b w1 S1 hS1
  · exact fun w => Try.call13 _ w
  · (focus ((repeat (first | exact TakeL.nil | apply TakeL.cons | exact Take.head | apply Take.tail)); done))
  rintro _ _ ⟨rfl, rfl⟩
  first | refine WL.app0 ?_ | refine WL.app1 ?_ | refine WL.app2 ?_ | refine WL.app3 ?_ | refine WL.app4 ?_ | skip
  repeat first
    | (apply WL.q; exact rfl; exact rfl; exact rfl; (first | (apply EvW.move; exact rfl) | (apply EvW.assign; exact rfl) | (apply EvW.cmpT; exact rfl; exact rfl; exact rfl; omega) | (apply EvW.cmpF; exact rfl; exact rfl; exact rfl; omega) | (apply EvW.cmp; exact rfl; exact rfl; exact rfl)))
    | refine WC.seq ?_ | refine WC.region ?_ | refine WL.nil ?_ | refine WE.next ?_ | refine WC.skip ?_ | refine WC.exit ?_ | refine WE.pass ?_ | refine WE.hit ?_ | refine WE.miss rfl ?_ | refine WE.out ?_ | refine WC.ret ?_ | refine WE.passRet ?_ | refine WE.outRet ?_ | refine WL.wanted rfl rfl rfl ?_
  refine WE.ret1 rfl rfl ?_
  exact ⟨rfl, rfl⟩
theorem refOf_spec (n : Int) (w : World) (S : BSet) (hS : (sepL []).sat S w) :
    Tri Try.prog 11 #[i64 n] w S fun v A => v = i64 (n % 65536) ∧ A = [] := by
  have ht := tmod_cases n 65536
  refine Tri.enter (l := [i64 n]) Try.func11 rfl Try.ntmps11 rfl [(0, i64 n)] (subA rfl) hS ?_
  repeat first
    | (apply WL.q; exact rfl; exact rfl; exact rfl; (first | (apply EvW.move; exact rfl) | (apply EvW.assign; exact rfl) | (apply EvW.cmpT; exact rfl; exact rfl; exact rfl; omega) | (apply EvW.cmpF; exact rfl; exact rfl; exact rfl; omega) | (apply EvW.cmp; exact rfl; exact rfl; exact rfl) | (apply EvW.arN; exact rfl; exact rfl; exact rfl; refine i64_in ?_ ?_ <;> omega) | (apply EvW.ar; exact rfl; exact rfl; exact rfl) | (apply EvW.remW; exact rfl; exact rfl; exact rfl; omega) | (apply EvW.remP; exact rfl; exact rfl; omega; omega) | (apply EvW.rem; exact rfl; exact rfl; omega)))
    | refine WC.seq ?_ | refine WC.region ?_ | refine WL.nil ?_ | refine WE.next ?_ | refine WC.skip ?_ | refine WC.exit ?_ | refine WE.pass ?_ | refine WE.hit ?_ | refine WE.miss rfl ?_ | refine WE.out ?_ | refine WC.condT rfl ?_ | refine WC.condF rfl ?_ | refine WC.ret ?_ | refine WE.passRet ?_ | refine WE.outRet ?_ | refine WL.wanted rfl rfl rfl ?_
  refine WC.condP rfl (fun h => ?_) (fun h => ?_)
  · repeat first
      | (apply WL.q; exact rfl; exact rfl; exact rfl; (first | (apply EvW.move; exact rfl) | (apply EvW.assign; exact rfl) | (apply EvW.cmpT; exact rfl; exact rfl; exact rfl; omega) | (apply EvW.cmpF; exact rfl; exact rfl; exact rfl; omega) | (apply EvW.cmp; exact rfl; exact rfl; exact rfl) | (apply EvW.arN; exact rfl; exact rfl; exact rfl; refine i64_in ?_ ?_ <;> omega) | (apply EvW.ar; exact rfl; exact rfl; exact rfl) | (apply EvW.remW; exact rfl; exact rfl; exact rfl; omega) | (apply EvW.remP; exact rfl; exact rfl; omega; omega) | (apply EvW.rem; exact rfl; exact rfl; omega)))
      | refine WC.seq ?_ | refine WC.region ?_ | refine WL.nil ?_ | refine WE.next ?_ | refine WC.skip ?_ | refine WC.exit ?_ | refine WE.pass ?_ | refine WE.hit ?_ | refine WE.miss rfl ?_ | refine WE.out ?_ | refine WC.condT rfl ?_ | refine WC.condF rfl ?_ | refine WC.ret ?_ | refine WE.passRet ?_ | refine WE.outRet ?_ | refine WL.wanted rfl rfl rfl ?_
    refine WE.ret1 rfl rfl ?_
    exact ⟨by congr 1; omega, rfl⟩
  · repeat first
      | (apply WL.q; exact rfl; exact rfl; exact rfl; (first | (apply EvW.move; exact rfl) | (apply EvW.assign; exact rfl) | (apply EvW.cmpT; exact rfl; exact rfl; exact rfl; omega) | (apply EvW.cmpF; exact rfl; exact rfl; exact rfl; omega) | (apply EvW.cmp; exact rfl; exact rfl; exact rfl) | (apply EvW.arN; exact rfl; exact rfl; exact rfl; refine i64_in ?_ ?_ <;> omega) | (apply EvW.ar; exact rfl; exact rfl; exact rfl) | (apply EvW.remW; exact rfl; exact rfl; exact rfl; omega) | (apply EvW.remP; exact rfl; exact rfl; omega; omega) | (apply EvW.rem; exact rfl; exact rfl; omega)))
      | refine WC.seq ?_ | refine WC.region ?_ | refine WL.nil ?_ | refine WE.next ?_ | refine WC.skip ?_ | refine WC.exit ?_ | refine WE.pass ?_ | refine WE.hit ?_ | refine WE.miss rfl ?_ | refine WE.out ?_ | refine WC.condT rfl ?_ | refine WC.condF rfl ?_ | refine WC.ret ?_ | refine WE.passRet ?_ | refine WE.outRet ?_ | refine WL.wanted rfl rfl rfl ?_
    refine WE.ret1 rfl rfl ?_
    exact ⟨by congr 1; omega, rfl⟩
theorem refGap_spec (a b : Int) (w : World) (S : BSet) (hS : (sepL []).sat S w) :
    Tri Try.prog 14 #[i64 a, i64 b] w S fun v A => v = i64 (sg a b) ∧ A = [] := by
  refine Tri.enter (l := [i64 a, i64 b]) Try.func14 rfl Try.ntmps14 rfl [(0, i64 a), (1, i64 b)] (subA rfl) hS ?_
  repeat first
    | (apply WL.q; exact rfl; exact rfl; exact rfl; (first | (apply EvW.move; exact rfl) | (apply EvW.assign; exact rfl) | (apply EvW.cmpT; exact rfl; exact rfl; exact rfl; omega) | (apply EvW.cmpF; exact rfl; exact rfl; exact rfl; omega) | (apply EvW.cmp; exact rfl; exact rfl; exact rfl) | (apply EvW.arN; exact rfl; exact rfl; exact rfl; refine i64_in ?_ ?_ <;> omega) | (apply EvW.ar; exact rfl; exact rfl; exact rfl)))
    | refine WC.seq ?_ | refine WC.region ?_ | refine WL.nil ?_ | refine WE.next ?_ | refine WC.skip ?_ | refine WC.exit ?_ | refine WE.pass ?_ | refine WE.hit ?_ | refine WE.miss rfl ?_ | refine WE.out ?_ | refine WC.condT rfl ?_ | refine WC.condF rfl ?_ | refine WC.ret ?_ | refine WE.passRet ?_ | refine WE.outRet ?_ | refine WL.wanted rfl rfl rfl ?_
  try refine WL.wanted rfl rfl rfl ?_
  apply WL.callT
  · exact rfl
  · exact rfl
  · exact fun w1 S1 hS1 hs1 ho1 => refOf_spec b w1 S1 hS1
  · exact fun w => Try.call11 _ w
  · (focus ((repeat (first | exact TakeL.nil | apply TakeL.cons | exact Take.head | apply Take.tail)); done))
  rintro _ _ ⟨rfl, rfl⟩
  first | refine WL.app0 ?_ | refine WL.app1 ?_ | refine WL.app2 ?_ | refine WL.app3 ?_ | refine WL.app4 ?_ | skip
  repeat first
    | (apply WL.q; exact rfl; exact rfl; exact rfl; (first | (apply EvW.move; exact rfl) | (apply EvW.assign; exact rfl) | (apply EvW.cmpT; exact rfl; exact rfl; exact rfl; omega) | (apply EvW.cmpF; exact rfl; exact rfl; exact rfl; omega) | (apply EvW.cmp; exact rfl; exact rfl; exact rfl) | (apply EvW.arN; exact rfl; exact rfl; exact rfl; refine i64_in ?_ ?_ <;> omega) | (apply EvW.ar; exact rfl; exact rfl; exact rfl)))
    | refine WC.seq ?_ | refine WC.region ?_ | refine WL.nil ?_ | refine WE.next ?_ | refine WC.skip ?_ | refine WC.exit ?_ | refine WE.pass ?_ | refine WE.hit ?_ | refine WE.miss rfl ?_ | refine WE.out ?_ | refine WC.condT rfl ?_ | refine WC.condF rfl ?_ | refine WC.ret ?_ | refine WE.passRet ?_ | refine WE.outRet ?_ | refine WL.wanted rfl rfl rfl ?_
  try refine WL.wanted rfl rfl rfl ?_
  apply WL.callT
  · exact rfl
  · exact rfl
  · exact fun w1 S1 hS1 hs1 ho1 => refOf_spec a w1 S1 hS1
  · exact fun w => Try.call11 _ w
  · (focus ((repeat (first | exact TakeL.nil | apply TakeL.cons | exact Take.head | apply Take.tail)); done))
  rintro _ _ ⟨rfl, rfl⟩
  first | refine WL.app0 ?_ | refine WL.app1 ?_ | refine WL.app2 ?_ | refine WL.app3 ?_ | refine WL.app4 ?_ | skip
  repeat first
    | (apply WL.q; exact rfl; exact rfl; exact rfl; (first | (apply EvW.move; exact rfl) | (apply EvW.assign; exact rfl) | (apply EvW.cmpT; exact rfl; exact rfl; exact rfl; omega) | (apply EvW.cmpF; exact rfl; exact rfl; exact rfl; omega) | (apply EvW.cmp; exact rfl; exact rfl; exact rfl) | (apply EvW.arN; exact rfl; exact rfl; exact rfl; refine i64_in ?_ ?_ <;> omega) | (apply EvW.ar; exact rfl; exact rfl; exact rfl)))
    | refine WC.seq ?_ | refine WC.region ?_ | refine WL.nil ?_ | refine WE.next ?_ | refine WC.skip ?_ | refine WC.exit ?_ | refine WE.pass ?_ | refine WE.hit ?_ | refine WE.miss rfl ?_ | refine WE.out ?_ | refine WC.condT rfl ?_ | refine WC.condF rfl ?_ | refine WC.ret ?_ | refine WE.passRet ?_ | refine WE.outRet ?_ | refine WL.wanted rfl rfl rfl ?_
  try refine WL.wanted rfl rfl rfl ?_
  apply WL.callT
  · exact rfl
  · exact rfl
  · exact fun w1 S1 hS1 hs1 ho1 => refOf_spec _ w1 S1 hS1
  · exact fun w => Try.call11 _ w
  · (focus ((repeat (first | exact TakeL.nil | apply TakeL.cons | exact Take.head | apply Take.tail)); done))
  rintro _ _ ⟨rfl, rfl⟩
  first | refine WL.app0 ?_ | refine WL.app1 ?_ | refine WL.app2 ?_ | refine WL.app3 ?_ | refine WL.app4 ?_ | skip
  repeat first
    | (apply WL.q; exact rfl; exact rfl; exact rfl; (first | (apply EvW.move; exact rfl) | (apply EvW.assign; exact rfl) | (apply EvW.cmpT; exact rfl; exact rfl; exact rfl; omega) | (apply EvW.cmpF; exact rfl; exact rfl; exact rfl; omega) | (apply EvW.cmp; exact rfl; exact rfl; exact rfl) | (apply EvW.arN; exact rfl; exact rfl; exact rfl; refine i64_in ?_ ?_ <;> omega) | (apply EvW.ar; exact rfl; exact rfl; exact rfl)))
    | refine WC.seq ?_ | refine WC.region ?_ | refine WL.nil ?_ | refine WE.next ?_ | refine WC.skip ?_ | refine WC.exit ?_ | refine WE.pass ?_ | refine WE.hit ?_ | refine WE.miss rfl ?_ | refine WE.out ?_ | refine WC.condT rfl ?_ | refine WC.condF rfl ?_ | refine WC.ret ?_ | refine WE.passRet ?_ | refine WE.outRet ?_ | refine WL.wanted rfl rfl rfl ?_
  refine WC.condP rfl (fun h => ?_) (fun h => ?_)
  · repeat first
      | (apply WL.q; exact rfl; exact rfl; exact rfl; (first | (apply EvW.move; exact rfl) | (apply EvW.assign; exact rfl) | (apply EvW.cmpT; exact rfl; exact rfl; exact rfl; omega) | (apply EvW.cmpF; exact rfl; exact rfl; exact rfl; omega) | (apply EvW.cmp; exact rfl; exact rfl; exact rfl) | (apply EvW.arN; exact rfl; exact rfl; exact rfl; refine i64_in ?_ ?_ <;> omega) | (apply EvW.ar; exact rfl; exact rfl; exact rfl)))
      | refine WC.seq ?_ | refine WC.region ?_ | refine WL.nil ?_ | refine WE.next ?_ | refine WC.skip ?_ | refine WC.exit ?_ | refine WE.pass ?_ | refine WE.hit ?_ | refine WE.miss rfl ?_ | refine WE.out ?_ | refine WC.condT rfl ?_ | refine WC.condF rfl ?_ | refine WC.ret ?_ | refine WE.passRet ?_ | refine WE.outRet ?_ | refine WL.wanted rfl rfl rfl ?_
    refine WE.ret1 rfl rfl ?_
    exact ⟨by congr 1; unfold sg; omega, rfl⟩
  · repeat first
      | (apply WL.q; exact rfl; exact rfl; exact rfl; (first | (apply EvW.move; exact rfl) | (apply EvW.assign; exact rfl) | (apply EvW.cmpT; exact rfl; exact rfl; exact rfl; omega) | (apply EvW.cmpF; exact rfl; exact rfl; exact rfl; omega) | (apply EvW.cmp; exact rfl; exact rfl; exact rfl) | (apply EvW.arN; exact rfl; exact rfl; exact rfl; refine i64_in ?_ ?_ <;> omega) | (apply EvW.ar; exact rfl; exact rfl; exact rfl)))
      | refine WC.seq ?_ | refine WC.region ?_ | refine WL.nil ?_ | refine WE.next ?_ | refine WC.skip ?_ | refine WC.exit ?_ | refine WE.pass ?_ | refine WE.hit ?_ | refine WE.miss rfl ?_ | refine WE.out ?_ | refine WC.condT rfl ?_ | refine WC.condF rfl ?_ | refine WC.ret ?_ | refine WE.passRet ?_ | refine WE.outRet ?_ | refine WL.wanted rfl rfl rfl ?_
    refine WE.ret1 rfl rfl ?_
    exact ⟨by congr 1; unfold sg; omega, rfl⟩

theorem take_spec (p T : Nat) (last ls n : Int) (w : World) (S : BSet) (hS : (sepL [.blk p #[i64 last, i64 ls] T]).sat S w) (h0 : 0 ≤ ls) (h1 : ls ≤ 4611686018427387904) :
    Tri Try.prog 19 #[ptr p 0, i64 n] w S fun v A => v = .tuple #[] ∧ A = [.blk p #[i64 (lostStep (last, ls) n).1, i64 (lostStep (last, ls) n).2] T] := by
  have hg : -32768 ≤ sg last n ∧ sg last n ≤ 32767 := by unfold sg; omega
  refine Tri.enter (l := [ptr p 0, i64 n]) Try.func19 rfl Try.ntmps19 rfl [(0, ptr p 0), (1, i64 n)] (subA rfl) hS ?_
  repeat first
    | (apply WL.q; exact rfl; exact rfl; exact rfl; (first | (apply EvW.move; exact rfl) | (apply EvW.nilPtr; exact rfl) | (apply EvW.fieldAddr0; exact rfl; exact FldC.eq) | (apply EvW.fieldAddr; exact rfl; exact FldC.eq) | (apply EvW.load; exact rfl; exact ScalC.eq; (focus ((repeat (first | exact Take.head | apply Take.tail)); done)); exact rfl) | (apply EvW.arN; exact rfl; exact rfl; exact rfl; refine i64_in ?_ ?_ <;> omega) | (apply EvW.ar; exact rfl; exact rfl; exact rfl) | (apply EvW.ldInt; exact rfl; exact ScalC.eq; assumption; omega) | (apply EvW.ldIntOwn; exact rfl; exact ScalC.eq; (focus ((repeat (first | exact Take.head | apply Take.tail)); done)); omega) | (apply EvW.fldRow; exact rfl; exact FldC.eq; assumption; omega) | (apply EvW.fldOwn; exact rfl; exact FldC.eq; (focus ((repeat (first | exact Take.head | apply Take.tail)); done)); omega)))
    | refine WC.seq ?_ | refine WC.region ?_ | refine WL.nil ?_ | refine WE.next ?_ | refine WC.skip ?_ | refine WC.exit ?_ | refine WE.pass ?_ | refine WE.hit ?_ | refine WE.miss rfl ?_ | refine WE.out ?_ | refine WC.condT rfl ?_ | refine WC.condF rfl ?_ | refine WC.ret ?_ | refine WE.passRet ?_ | refine WE.outRet ?_ | refine WL.wanted rfl rfl rfl ?_ | (apply WL.store; exact rfl; exact rfl; exact rfl; exact SzC.eq; exact rfl; (focus ((repeat (first | apply UpdC.head | apply UpdC.tail | exact SetMany.nil | apply SetMany.cons | apply SetMany.succ)); done)))
  try refine WL.wanted rfl rfl rfl ?_
  apply WL.callT
  · exact rfl
  · exact rfl
  · exact fun w1 S1 hS1 hs1 ho1 => newer_spec last n w1 S1 hS1
  · exact fun w => Try.call15 _ w
  · (focus ((repeat (first | exact TakeL.nil | apply TakeL.cons | exact Take.head | apply Take.tail)); done))
  rintro _ _ ⟨rfl, rfl⟩
  first | refine WL.app0 ?_ | refine WL.app1 ?_ | refine WL.app2 ?_ | refine WL.app3 ?_ | refine WL.app4 ?_ | skip
  repeat first
    | (apply WL.q; exact rfl; exact rfl; exact rfl; (first | (apply EvW.move; exact rfl) | (apply EvW.nilPtr; exact rfl) | (apply EvW.fieldAddr0; exact rfl; exact FldC.eq) | (apply EvW.fieldAddr; exact rfl; exact FldC.eq) | (apply EvW.load; exact rfl; exact ScalC.eq; (focus ((repeat (first | exact Take.head | apply Take.tail)); done)); exact rfl) | (apply EvW.arN; exact rfl; exact rfl; exact rfl; refine i64_in ?_ ?_ <;> omega) | (apply EvW.ar; exact rfl; exact rfl; exact rfl) | (apply EvW.ldInt; exact rfl; exact ScalC.eq; assumption; omega) | (apply EvW.ldIntOwn; exact rfl; exact ScalC.eq; (focus ((repeat (first | exact Take.head | apply Take.tail)); done)); omega) | (apply EvW.fldRow; exact rfl; exact FldC.eq; assumption; omega) | (apply EvW.fldOwn; exact rfl; exact FldC.eq; (focus ((repeat (first | exact Take.head | apply Take.tail)); done)); omega)))
    | refine WC.seq ?_ | refine WC.region ?_ | refine WL.nil ?_ | refine WE.next ?_ | refine WC.skip ?_ | refine WC.exit ?_ | refine WE.pass ?_ | refine WE.hit ?_ | refine WE.miss rfl ?_ | refine WE.out ?_ | refine WC.condT rfl ?_ | refine WC.condF rfl ?_ | refine WC.ret ?_ | refine WE.passRet ?_ | refine WE.outRet ?_ | refine WL.wanted rfl rfl rfl ?_ | (apply WL.store; exact rfl; exact rfl; exact rfl; exact SzC.eq; exact rfl; (focus ((repeat (first | apply UpdC.head | apply UpdC.tail | exact SetMany.nil | apply SetMany.cons | apply SetMany.succ)); done)))
  refine WC.condP rfl (fun h => ?_) (fun h => ?_)
  · skip
    try refine WC.seq ?_
    apply WC.drawE ([[.blk p #[i64 last, i64 ls] T], [.blk p #[i64 last, i64 (ls + (sg last n - 1))] T]]) ([14]) Try.mixed
    · (focus ((repeat (first | exact Restr.nil | (apply Restr.keep; exact rfl; exact rfl) | (apply Restr.drop; exact rfl))); done))
    · exact rfl
    · exact rfl
    · decide +kernel
    · decide +kernel
    · decide +kernel
    · decide +kernel
    · repeat first
          | exact Draws.nil
          | (refine Draws.skip rfl rfl ?_)
          | (apply Draws.at 0; exact rfl; decide +kernel
             (first | (apply EvW.move; exact rfl) | (apply EvW.nilPtr; exact rfl) | (apply EvW.fieldAddr0; exact rfl; exact FldC.eq) | (apply EvW.fieldAddr; exact rfl; exact FldC.eq) | (apply EvW.load; exact rfl; exact ScalC.eq; (focus ((repeat (first | exact Take.head | apply Take.tail)); done)); exact rfl) | (apply EvW.arN; exact rfl; exact rfl; exact rfl; refine i64_in ?_ ?_ <;> omega) | (apply EvW.ar; exact rfl; exact rfl; exact rfl) | (apply EvW.ldInt; exact rfl; exact ScalC.eq; assumption; omega) | (apply EvW.ldIntOwn; exact rfl; exact ScalC.eq; (focus ((repeat (first | exact Take.head | apply Take.tail)); done)); omega) | (apply EvW.fldRow; exact rfl; exact FldC.eq; assumption; omega) | (apply EvW.fldOwn; exact rfl; exact FldC.eq; (focus ((repeat (first | exact Take.head | apply Take.tail)); done)); omega)))
          | (apply Draws.at 1; exact rfl; decide +kernel
             (first | (apply EvW.move; exact rfl) | (apply EvW.nilPtr; exact rfl) | (apply EvW.fieldAddr0; exact rfl; exact FldC.eq) | (apply EvW.fieldAddr; exact rfl; exact FldC.eq) | (apply EvW.load; exact rfl; exact ScalC.eq; (focus ((repeat (first | exact Take.head | apply Take.tail)); done)); exact rfl) | (apply EvW.arN; exact rfl; exact rfl; exact rfl; refine i64_in ?_ ?_ <;> omega) | (apply EvW.ar; exact rfl; exact rfl; exact rfl) | (apply EvW.ldInt; exact rfl; exact ScalC.eq; assumption; omega) | (apply EvW.ldIntOwn; exact rfl; exact ScalC.eq; (focus ((repeat (first | exact Take.head | apply Take.tail)); done)); omega) | (apply EvW.fldRow; exact rfl; exact FldC.eq; assumption; omega) | (apply EvW.fldOwn; exact rfl; exact FldC.eq; (focus ((repeat (first | exact Take.head | apply Take.tail)); done)); omega)))
          | (apply Draws.two 0; exact rfl; decide +kernel
             (first | (apply EvW.move; exact rfl) | (apply EvW.nilPtr; exact rfl) | (apply EvW.fieldAddr0; exact rfl; exact FldC.eq) | (apply EvW.fieldAddr; exact rfl; exact FldC.eq) | (apply EvW.load; exact rfl; exact ScalC.eq; (focus ((repeat (first | exact Take.head | apply Take.tail)); done)); exact rfl) | (apply EvW.arN; exact rfl; exact rfl; exact rfl; refine i64_in ?_ ?_ <;> omega) | (apply EvW.ar; exact rfl; exact rfl; exact rfl) | (apply EvW.ldInt; exact rfl; exact ScalC.eq; assumption; omega) | (apply EvW.ldIntOwn; exact rfl; exact ScalC.eq; (focus ((repeat (first | exact Take.head | apply Take.tail)); done)); omega) | (apply EvW.fldRow; exact rfl; exact FldC.eq; assumption; omega) | (apply EvW.fldOwn; exact rfl; exact FldC.eq; (focus ((repeat (first | exact Take.head | apply Take.tail)); done)); omega))
             (first | (apply EvW.move; exact rfl) | (apply EvW.nilPtr; exact rfl) | (apply EvW.fieldAddr0; exact rfl; exact FldC.eq) | (apply EvW.fieldAddr; exact rfl; exact FldC.eq) | (apply EvW.load; exact rfl; exact ScalC.eq; (focus ((repeat (first | exact Take.head | apply Take.tail)); done)); exact rfl) | (apply EvW.arN; exact rfl; exact rfl; exact rfl; refine i64_in ?_ ?_ <;> omega) | (apply EvW.ar; exact rfl; exact rfl; exact rfl) | (apply EvW.ldInt; exact rfl; exact ScalC.eq; assumption; omega) | (apply EvW.ldIntOwn; exact rfl; exact ScalC.eq; (focus ((repeat (first | exact Take.head | apply Take.tail)); done)); omega) | (apply EvW.fldRow; exact rfl; exact FldC.eq; assumption; omega) | (apply EvW.fldOwn; exact rfl; exact FldC.eq; (focus ((repeat (first | exact Take.head | apply Take.tail)); done)); omega)))
          | (apply Draws.at 2; exact rfl; decide +kernel
             (first | (apply EvW.move; exact rfl) | (apply EvW.nilPtr; exact rfl) | (apply EvW.fieldAddr0; exact rfl; exact FldC.eq) | (apply EvW.fieldAddr; exact rfl; exact FldC.eq) | (apply EvW.load; exact rfl; exact ScalC.eq; (focus ((repeat (first | exact Take.head | apply Take.tail)); done)); exact rfl) | (apply EvW.arN; exact rfl; exact rfl; exact rfl; refine i64_in ?_ ?_ <;> omega) | (apply EvW.ar; exact rfl; exact rfl; exact rfl) | (apply EvW.ldInt; exact rfl; exact ScalC.eq; assumption; omega) | (apply EvW.ldIntOwn; exact rfl; exact ScalC.eq; (focus ((repeat (first | exact Take.head | apply Take.tail)); done)); omega) | (apply EvW.fldRow; exact rfl; exact FldC.eq; assumption; omega) | (apply EvW.fldOwn; exact rfl; exact FldC.eq; (focus ((repeat (first | exact Take.head | apply Take.tail)); done)); omega)))
          | (apply Draws.two 1; exact rfl; decide +kernel
             (first | (apply EvW.move; exact rfl) | (apply EvW.nilPtr; exact rfl) | (apply EvW.fieldAddr0; exact rfl; exact FldC.eq) | (apply EvW.fieldAddr; exact rfl; exact FldC.eq) | (apply EvW.load; exact rfl; exact ScalC.eq; (focus ((repeat (first | exact Take.head | apply Take.tail)); done)); exact rfl) | (apply EvW.arN; exact rfl; exact rfl; exact rfl; refine i64_in ?_ ?_ <;> omega) | (apply EvW.ar; exact rfl; exact rfl; exact rfl) | (apply EvW.ldInt; exact rfl; exact ScalC.eq; assumption; omega) | (apply EvW.ldIntOwn; exact rfl; exact ScalC.eq; (focus ((repeat (first | exact Take.head | apply Take.tail)); done)); omega) | (apply EvW.fldRow; exact rfl; exact FldC.eq; assumption; omega) | (apply EvW.fldOwn; exact rfl; exact FldC.eq; (focus ((repeat (first | exact Take.head | apply Take.tail)); done)); omega))
             (first | (apply EvW.move; exact rfl) | (apply EvW.nilPtr; exact rfl) | (apply EvW.fieldAddr0; exact rfl; exact FldC.eq) | (apply EvW.fieldAddr; exact rfl; exact FldC.eq) | (apply EvW.load; exact rfl; exact ScalC.eq; (focus ((repeat (first | exact Take.head | apply Take.tail)); done)); exact rfl) | (apply EvW.arN; exact rfl; exact rfl; exact rfl; refine i64_in ?_ ?_ <;> omega) | (apply EvW.ar; exact rfl; exact rfl; exact rfl) | (apply EvW.ldInt; exact rfl; exact ScalC.eq; assumption; omega) | (apply EvW.ldIntOwn; exact rfl; exact ScalC.eq; (focus ((repeat (first | exact Take.head | apply Take.tail)); done)); omega) | (apply EvW.fldRow; exact rfl; exact FldC.eq; assumption; omega) | (apply EvW.fldOwn; exact rfl; exact FldC.eq; (focus ((repeat (first | exact Take.head | apply Take.tail)); done)); omega)))
      (first | (apply Draws.q0; exact rfl) | (apply Draws.at 0; exact rfl; decide +kernel) | (apply Draws.at 1; exact rfl; decide +kernel))
      · apply EvW.callQ
        · exact rfl
        · exact fun w1 S1 hS1 hs1 ho1 => gap_spec last n w1 S1 hS1
        · exact fun w => Try.call13 _ w
        · exact fun _ _ h => h
      repeat first
          | exact Draws.nil
          | (refine Draws.skip rfl rfl ?_)
          | (apply Draws.at 0; exact rfl; decide +kernel
             (first | (apply EvW.move; exact rfl) | (apply EvW.nilPtr; exact rfl) | (apply EvW.fieldAddr0; exact rfl; exact FldC.eq) | (apply EvW.fieldAddr; exact rfl; exact FldC.eq) | (apply EvW.load; exact rfl; exact ScalC.eq; (focus ((repeat (first | exact Take.head | apply Take.tail)); done)); exact rfl) | (apply EvW.arN; exact rfl; exact rfl; exact rfl; refine i64_in ?_ ?_ <;> omega) | (apply EvW.ar; exact rfl; exact rfl; exact rfl) | (apply EvW.ldInt; exact rfl; exact ScalC.eq; assumption; omega) | (apply EvW.ldIntOwn; exact rfl; exact ScalC.eq; (focus ((repeat (first | exact Take.head | apply Take.tail)); done)); omega) | (apply EvW.fldRow; exact rfl; exact FldC.eq; assumption; omega) | (apply EvW.fldOwn; exact rfl; exact FldC.eq; (focus ((repeat (first | exact Take.head | apply Take.tail)); done)); omega)))
          | (apply Draws.at 1; exact rfl; decide +kernel
             (first | (apply EvW.move; exact rfl) | (apply EvW.nilPtr; exact rfl) | (apply EvW.fieldAddr0; exact rfl; exact FldC.eq) | (apply EvW.fieldAddr; exact rfl; exact FldC.eq) | (apply EvW.load; exact rfl; exact ScalC.eq; (focus ((repeat (first | exact Take.head | apply Take.tail)); done)); exact rfl) | (apply EvW.arN; exact rfl; exact rfl; exact rfl; refine i64_in ?_ ?_ <;> omega) | (apply EvW.ar; exact rfl; exact rfl; exact rfl) | (apply EvW.ldInt; exact rfl; exact ScalC.eq; assumption; omega) | (apply EvW.ldIntOwn; exact rfl; exact ScalC.eq; (focus ((repeat (first | exact Take.head | apply Take.tail)); done)); omega) | (apply EvW.fldRow; exact rfl; exact FldC.eq; assumption; omega) | (apply EvW.fldOwn; exact rfl; exact FldC.eq; (focus ((repeat (first | exact Take.head | apply Take.tail)); done)); omega)))
          | (apply Draws.two 0; exact rfl; decide +kernel
             (first | (apply EvW.move; exact rfl) | (apply EvW.nilPtr; exact rfl) | (apply EvW.fieldAddr0; exact rfl; exact FldC.eq) | (apply EvW.fieldAddr; exact rfl; exact FldC.eq) | (apply EvW.load; exact rfl; exact ScalC.eq; (focus ((repeat (first | exact Take.head | apply Take.tail)); done)); exact rfl) | (apply EvW.arN; exact rfl; exact rfl; exact rfl; refine i64_in ?_ ?_ <;> omega) | (apply EvW.ar; exact rfl; exact rfl; exact rfl) | (apply EvW.ldInt; exact rfl; exact ScalC.eq; assumption; omega) | (apply EvW.ldIntOwn; exact rfl; exact ScalC.eq; (focus ((repeat (first | exact Take.head | apply Take.tail)); done)); omega) | (apply EvW.fldRow; exact rfl; exact FldC.eq; assumption; omega) | (apply EvW.fldOwn; exact rfl; exact FldC.eq; (focus ((repeat (first | exact Take.head | apply Take.tail)); done)); omega))
             (first | (apply EvW.move; exact rfl) | (apply EvW.nilPtr; exact rfl) | (apply EvW.fieldAddr0; exact rfl; exact FldC.eq) | (apply EvW.fieldAddr; exact rfl; exact FldC.eq) | (apply EvW.load; exact rfl; exact ScalC.eq; (focus ((repeat (first | exact Take.head | apply Take.tail)); done)); exact rfl) | (apply EvW.arN; exact rfl; exact rfl; exact rfl; refine i64_in ?_ ?_ <;> omega) | (apply EvW.ar; exact rfl; exact rfl; exact rfl) | (apply EvW.ldInt; exact rfl; exact ScalC.eq; assumption; omega) | (apply EvW.ldIntOwn; exact rfl; exact ScalC.eq; (focus ((repeat (first | exact Take.head | apply Take.tail)); done)); omega) | (apply EvW.fldRow; exact rfl; exact FldC.eq; assumption; omega) | (apply EvW.fldOwn; exact rfl; exact FldC.eq; (focus ((repeat (first | exact Take.head | apply Take.tail)); done)); omega)))
          | (apply Draws.at 2; exact rfl; decide +kernel
             (first | (apply EvW.move; exact rfl) | (apply EvW.nilPtr; exact rfl) | (apply EvW.fieldAddr0; exact rfl; exact FldC.eq) | (apply EvW.fieldAddr; exact rfl; exact FldC.eq) | (apply EvW.load; exact rfl; exact ScalC.eq; (focus ((repeat (first | exact Take.head | apply Take.tail)); done)); exact rfl) | (apply EvW.arN; exact rfl; exact rfl; exact rfl; refine i64_in ?_ ?_ <;> omega) | (apply EvW.ar; exact rfl; exact rfl; exact rfl) | (apply EvW.ldInt; exact rfl; exact ScalC.eq; assumption; omega) | (apply EvW.ldIntOwn; exact rfl; exact ScalC.eq; (focus ((repeat (first | exact Take.head | apply Take.tail)); done)); omega) | (apply EvW.fldRow; exact rfl; exact FldC.eq; assumption; omega) | (apply EvW.fldOwn; exact rfl; exact FldC.eq; (focus ((repeat (first | exact Take.head | apply Take.tail)); done)); omega)))
          | (apply Draws.two 1; exact rfl; decide +kernel
             (first | (apply EvW.move; exact rfl) | (apply EvW.nilPtr; exact rfl) | (apply EvW.fieldAddr0; exact rfl; exact FldC.eq) | (apply EvW.fieldAddr; exact rfl; exact FldC.eq) | (apply EvW.load; exact rfl; exact ScalC.eq; (focus ((repeat (first | exact Take.head | apply Take.tail)); done)); exact rfl) | (apply EvW.arN; exact rfl; exact rfl; exact rfl; refine i64_in ?_ ?_ <;> omega) | (apply EvW.ar; exact rfl; exact rfl; exact rfl) | (apply EvW.ldInt; exact rfl; exact ScalC.eq; assumption; omega) | (apply EvW.ldIntOwn; exact rfl; exact ScalC.eq; (focus ((repeat (first | exact Take.head | apply Take.tail)); done)); omega) | (apply EvW.fldRow; exact rfl; exact FldC.eq; assumption; omega) | (apply EvW.fldOwn; exact rfl; exact FldC.eq; (focus ((repeat (first | exact Take.head | apply Take.tail)); done)); omega))
             (first | (apply EvW.move; exact rfl) | (apply EvW.nilPtr; exact rfl) | (apply EvW.fieldAddr0; exact rfl; exact FldC.eq) | (apply EvW.fieldAddr; exact rfl; exact FldC.eq) | (apply EvW.load; exact rfl; exact ScalC.eq; (focus ((repeat (first | exact Take.head | apply Take.tail)); done)); exact rfl) | (apply EvW.arN; exact rfl; exact rfl; exact rfl; refine i64_in ?_ ?_ <;> omega) | (apply EvW.ar; exact rfl; exact rfl; exact rfl) | (apply EvW.ldInt; exact rfl; exact ScalC.eq; assumption; omega) | (apply EvW.ldIntOwn; exact rfl; exact ScalC.eq; (focus ((repeat (first | exact Take.head | apply Take.tail)); done)); omega) | (apply EvW.fldRow; exact rfl; exact FldC.eq; assumption; omega) | (apply EvW.fldOwn; exact rfl; exact FldC.eq; (focus ((repeat (first | exact Take.head | apply Take.tail)); done)); omega)))
      apply Draws.eff _ (0) rfl rfl
      · (apply EffW.store; exact rfl; exact rfl; exact rfl; exact SzC.eq; exact rfl; (focus ((repeat (first | apply UpdC.head | apply UpdC.tail | exact SetMany.nil | apply SetMany.cons | apply SetMany.succ)); done)))
      repeat first
          | exact Draws.nil
          | (refine Draws.skip rfl rfl ?_)
          | (apply Draws.at 0; exact rfl; decide +kernel
             (first | (apply EvW.move; exact rfl) | (apply EvW.nilPtr; exact rfl) | (apply EvW.fieldAddr0; exact rfl; exact FldC.eq) | (apply EvW.fieldAddr; exact rfl; exact FldC.eq) | (apply EvW.load; exact rfl; exact ScalC.eq; (focus ((repeat (first | exact Take.head | apply Take.tail)); done)); exact rfl) | (apply EvW.arN; exact rfl; exact rfl; exact rfl; refine i64_in ?_ ?_ <;> omega) | (apply EvW.ar; exact rfl; exact rfl; exact rfl) | (apply EvW.ldInt; exact rfl; exact ScalC.eq; assumption; omega) | (apply EvW.ldIntOwn; exact rfl; exact ScalC.eq; (focus ((repeat (first | exact Take.head | apply Take.tail)); done)); omega) | (apply EvW.fldRow; exact rfl; exact FldC.eq; assumption; omega) | (apply EvW.fldOwn; exact rfl; exact FldC.eq; (focus ((repeat (first | exact Take.head | apply Take.tail)); done)); omega)))
          | (apply Draws.at 1; exact rfl; decide +kernel
             (first | (apply EvW.move; exact rfl) | (apply EvW.nilPtr; exact rfl) | (apply EvW.fieldAddr0; exact rfl; exact FldC.eq) | (apply EvW.fieldAddr; exact rfl; exact FldC.eq) | (apply EvW.load; exact rfl; exact ScalC.eq; (focus ((repeat (first | exact Take.head | apply Take.tail)); done)); exact rfl) | (apply EvW.arN; exact rfl; exact rfl; exact rfl; refine i64_in ?_ ?_ <;> omega) | (apply EvW.ar; exact rfl; exact rfl; exact rfl) | (apply EvW.ldInt; exact rfl; exact ScalC.eq; assumption; omega) | (apply EvW.ldIntOwn; exact rfl; exact ScalC.eq; (focus ((repeat (first | exact Take.head | apply Take.tail)); done)); omega) | (apply EvW.fldRow; exact rfl; exact FldC.eq; assumption; omega) | (apply EvW.fldOwn; exact rfl; exact FldC.eq; (focus ((repeat (first | exact Take.head | apply Take.tail)); done)); omega)))
          | (apply Draws.two 0; exact rfl; decide +kernel
             (first | (apply EvW.move; exact rfl) | (apply EvW.nilPtr; exact rfl) | (apply EvW.fieldAddr0; exact rfl; exact FldC.eq) | (apply EvW.fieldAddr; exact rfl; exact FldC.eq) | (apply EvW.load; exact rfl; exact ScalC.eq; (focus ((repeat (first | exact Take.head | apply Take.tail)); done)); exact rfl) | (apply EvW.arN; exact rfl; exact rfl; exact rfl; refine i64_in ?_ ?_ <;> omega) | (apply EvW.ar; exact rfl; exact rfl; exact rfl) | (apply EvW.ldInt; exact rfl; exact ScalC.eq; assumption; omega) | (apply EvW.ldIntOwn; exact rfl; exact ScalC.eq; (focus ((repeat (first | exact Take.head | apply Take.tail)); done)); omega) | (apply EvW.fldRow; exact rfl; exact FldC.eq; assumption; omega) | (apply EvW.fldOwn; exact rfl; exact FldC.eq; (focus ((repeat (first | exact Take.head | apply Take.tail)); done)); omega))
             (first | (apply EvW.move; exact rfl) | (apply EvW.nilPtr; exact rfl) | (apply EvW.fieldAddr0; exact rfl; exact FldC.eq) | (apply EvW.fieldAddr; exact rfl; exact FldC.eq) | (apply EvW.load; exact rfl; exact ScalC.eq; (focus ((repeat (first | exact Take.head | apply Take.tail)); done)); exact rfl) | (apply EvW.arN; exact rfl; exact rfl; exact rfl; refine i64_in ?_ ?_ <;> omega) | (apply EvW.ar; exact rfl; exact rfl; exact rfl) | (apply EvW.ldInt; exact rfl; exact ScalC.eq; assumption; omega) | (apply EvW.ldIntOwn; exact rfl; exact ScalC.eq; (focus ((repeat (first | exact Take.head | apply Take.tail)); done)); omega) | (apply EvW.fldRow; exact rfl; exact FldC.eq; assumption; omega) | (apply EvW.fldOwn; exact rfl; exact FldC.eq; (focus ((repeat (first | exact Take.head | apply Take.tail)); done)); omega)))
          | (apply Draws.at 2; exact rfl; decide +kernel
             (first | (apply EvW.move; exact rfl) | (apply EvW.nilPtr; exact rfl) | (apply EvW.fieldAddr0; exact rfl; exact FldC.eq) | (apply EvW.fieldAddr; exact rfl; exact FldC.eq) | (apply EvW.load; exact rfl; exact ScalC.eq; (focus ((repeat (first | exact Take.head | apply Take.tail)); done)); exact rfl) | (apply EvW.arN; exact rfl; exact rfl; exact rfl; refine i64_in ?_ ?_ <;> omega) | (apply EvW.ar; exact rfl; exact rfl; exact rfl) | (apply EvW.ldInt; exact rfl; exact ScalC.eq; assumption; omega) | (apply EvW.ldIntOwn; exact rfl; exact ScalC.eq; (focus ((repeat (first | exact Take.head | apply Take.tail)); done)); omega) | (apply EvW.fldRow; exact rfl; exact FldC.eq; assumption; omega) | (apply EvW.fldOwn; exact rfl; exact FldC.eq; (focus ((repeat (first | exact Take.head | apply Take.tail)); done)); omega)))
          | (apply Draws.two 1; exact rfl; decide +kernel
             (first | (apply EvW.move; exact rfl) | (apply EvW.nilPtr; exact rfl) | (apply EvW.fieldAddr0; exact rfl; exact FldC.eq) | (apply EvW.fieldAddr; exact rfl; exact FldC.eq) | (apply EvW.load; exact rfl; exact ScalC.eq; (focus ((repeat (first | exact Take.head | apply Take.tail)); done)); exact rfl) | (apply EvW.arN; exact rfl; exact rfl; exact rfl; refine i64_in ?_ ?_ <;> omega) | (apply EvW.ar; exact rfl; exact rfl; exact rfl) | (apply EvW.ldInt; exact rfl; exact ScalC.eq; assumption; omega) | (apply EvW.ldIntOwn; exact rfl; exact ScalC.eq; (focus ((repeat (first | exact Take.head | apply Take.tail)); done)); omega) | (apply EvW.fldRow; exact rfl; exact FldC.eq; assumption; omega) | (apply EvW.fldOwn; exact rfl; exact FldC.eq; (focus ((repeat (first | exact Take.head | apply Take.tail)); done)); omega))
             (first | (apply EvW.move; exact rfl) | (apply EvW.nilPtr; exact rfl) | (apply EvW.fieldAddr0; exact rfl; exact FldC.eq) | (apply EvW.fieldAddr; exact rfl; exact FldC.eq) | (apply EvW.load; exact rfl; exact ScalC.eq; (focus ((repeat (first | exact Take.head | apply Take.tail)); done)); exact rfl) | (apply EvW.arN; exact rfl; exact rfl; exact rfl; refine i64_in ?_ ?_ <;> omega) | (apply EvW.ar; exact rfl; exact rfl; exact rfl) | (apply EvW.ldInt; exact rfl; exact ScalC.eq; assumption; omega) | (apply EvW.ldIntOwn; exact rfl; exact ScalC.eq; (focus ((repeat (first | exact Take.head | apply Take.tail)); done)); omega) | (apply EvW.fldRow; exact rfl; exact FldC.eq; assumption; omega) | (apply EvW.fldOwn; exact rfl; exact FldC.eq; (focus ((repeat (first | exact Take.head | apply Take.tail)); done)); omega)))
    apply WE.writ
    · (focus ((repeat (first | exact Writ.nil | apply Writ.some | apply Writ.none)); done))
    repeat first
      | (apply WL.q; exact rfl; exact rfl; exact rfl; (first | (apply EvW.move; exact rfl) | (apply EvW.nilPtr; exact rfl) | (apply EvW.fieldAddr0; exact rfl; exact FldC.eq) | (apply EvW.fieldAddr; exact rfl; exact FldC.eq) | (apply EvW.load; exact rfl; exact ScalC.eq; (focus ((repeat (first | exact Take.head | apply Take.tail)); done)); exact rfl) | (apply EvW.arN; exact rfl; exact rfl; exact rfl; refine i64_in ?_ ?_ <;> omega) | (apply EvW.ar; exact rfl; exact rfl; exact rfl) | (apply EvW.ldInt; exact rfl; exact ScalC.eq; assumption; omega) | (apply EvW.ldIntOwn; exact rfl; exact ScalC.eq; (focus ((repeat (first | exact Take.head | apply Take.tail)); done)); omega) | (apply EvW.fldRow; exact rfl; exact FldC.eq; assumption; omega) | (apply EvW.fldOwn; exact rfl; exact FldC.eq; (focus ((repeat (first | exact Take.head | apply Take.tail)); done)); omega)))
      | refine WC.seq ?_ | refine WC.region ?_ | refine WL.nil ?_ | refine WE.next ?_ | refine WC.skip ?_ | refine WC.exit ?_ | refine WE.pass ?_ | refine WE.hit ?_ | refine WE.miss rfl ?_ | refine WE.out ?_ | refine WC.condT rfl ?_ | refine WC.condF rfl ?_ | refine WC.ret ?_ | refine WE.passRet ?_ | refine WE.outRet ?_ | refine WL.wanted rfl rfl rfl ?_ | (apply WL.store; exact rfl; exact rfl; exact rfl; exact SzC.eq; exact rfl; (focus ((repeat (first | apply UpdC.head | apply UpdC.tail | exact SetMany.nil | apply SetMany.cons | apply SetMany.succ)); done)))
    refine WE.end0 rfl ⟨rfl, ?_⟩
    simp [lostStep, h]
  · repeat first
      | (apply WL.q; exact rfl; exact rfl; exact rfl; (first | (apply EvW.move; exact rfl) | (apply EvW.nilPtr; exact rfl) | (apply EvW.fieldAddr0; exact rfl; exact FldC.eq) | (apply EvW.fieldAddr; exact rfl; exact FldC.eq) | (apply EvW.load; exact rfl; exact ScalC.eq; (focus ((repeat (first | exact Take.head | apply Take.tail)); done)); exact rfl) | (apply EvW.arN; exact rfl; exact rfl; exact rfl; refine i64_in ?_ ?_ <;> omega) | (apply EvW.ar; exact rfl; exact rfl; exact rfl) | (apply EvW.ldInt; exact rfl; exact ScalC.eq; assumption; omega) | (apply EvW.ldIntOwn; exact rfl; exact ScalC.eq; (focus ((repeat (first | exact Take.head | apply Take.tail)); done)); omega) | (apply EvW.fldRow; exact rfl; exact FldC.eq; assumption; omega) | (apply EvW.fldOwn; exact rfl; exact FldC.eq; (focus ((repeat (first | exact Take.head | apply Take.tail)); done)); omega)))
      | refine WC.seq ?_ | refine WC.region ?_ | refine WL.nil ?_ | refine WE.next ?_ | refine WC.skip ?_ | refine WC.exit ?_ | refine WE.pass ?_ | refine WE.hit ?_ | refine WE.miss rfl ?_ | refine WE.out ?_ | refine WC.condT rfl ?_ | refine WC.condF rfl ?_ | refine WC.ret ?_ | refine WE.passRet ?_ | refine WE.outRet ?_ | refine WL.wanted rfl rfl rfl ?_ | (apply WL.store; exact rfl; exact rfl; exact rfl; exact SzC.eq; exact rfl; (focus ((repeat (first | apply UpdC.head | apply UpdC.tail | exact SetMany.nil | apply SetMany.cons | apply SetMany.succ)); done)))
    refine WE.end0 rfl ⟨rfl, ?_⟩
    simp [lostStep, h]
theorem sameInts_spec (v v' : Value) (xs ys : List Int) (w : World) (S : BSet) (hS : (sepL []).sat S w) (hx : Sees w S (.row 1 v xs.length (xs.map i64))) (hy : Sees w S (.row 1 v' ys.length (ys.map i64))) (hb : (xs.length : Int) ≤ 17592186044416) (hb : (ys.length : Int) ≤ 17592186044416) (hxy : xs = ys) :
    Tri Try.prog 18 #[v, v'] w S fun u A => u = .bool true ∧ A = [] := by
  subst hxy
  refine Tri.enter (l := [v, v']) Try.func18 rfl Try.ntmps18 rfl [(0, v), (1, v')] (subA rfl) hS ?_
  repeat first
    | (apply WL.q; exact rfl; exact rfl; exact rfl; (first | (apply EvW.move; exact rfl) | (apply EvW.assign; exact rfl) | (apply EvW.load; exact rfl; exact ScalC.eq; (focus ((repeat (first | exact Take.head | apply Take.tail)); done)); exact rfl) | (apply EvW.lenL; exact rfl; exact UndC.eq) | (apply EvW.cmpT; exact rfl; exact rfl; exact rfl; omega) | (apply EvW.cmpF; exact rfl; exact rfl; exact rfl; omega) | (apply EvW.cmp; exact rfl; exact rfl; exact rfl) | (apply EvW.arN; exact rfl; exact rfl; exact rfl; refine i64_in ?_ ?_ <;> omega) | (apply EvW.ar; exact rfl; exact rfl; exact rfl) | (apply EvW.lenRow; exact rfl; exact UndC.eq; assumption) | (apply EvW.lenOwn; exact rfl; exact UndC.eq; (focus ((repeat (first | exact Take.head | apply Take.tail)); done))) | (apply EvW.idxRow; exact rfl; exact rfl; exact UndC.eq; exact SzC.eq; assumption; omega; omega) | (apply EvW.idxOwn; exact rfl; exact rfl; exact UndC.eq; exact SzC.eq; (focus ((repeat (first | exact Take.head | apply Take.tail)); done)); omega; omega) | (apply EvW.ldInt; exact rfl; exact ScalC.eq; assumption; omega) | (apply EvW.ldIntOwn; exact rfl; exact ScalC.eq; (focus ((repeat (first | exact Take.head | apply Take.tail)); done)); omega)))
    | refine WC.seq ?_ | refine WC.region ?_ | refine WL.nil ?_ | refine WE.next ?_ | refine WC.block ?_ | refine WC.skip ?_ | refine WC.exit ?_ | refine WE.pass ?_ | refine WE.hit ?_ | refine WE.miss rfl ?_ | refine WE.out ?_ | refine WC.condT rfl ?_ | refine WC.condF rfl ?_ | refine WC.ret ?_ | refine WE.passRet ?_ | refine WE.outRet ?_ | refine WL.wanted rfl rfl rfl ?_
  refine WC.loop (σ := Nat) (fun k => [(13, i64 k), (12, i64 xs.length), (0, v), (1, v')]) (fun _ => []) (fun k => k ≤ xs.length) (fun k => xs.length - k) 0 ⟨rfl, rfl, rfl, rfl, trivial⟩ (fun _ h => h) (Nat.zero_le _) (fun k hk => ?_)
  by_cases hlt : (k : Int) < xs.length
  · repeat first
      | (apply WL.q; exact rfl; exact rfl; exact rfl; (first | (apply EvW.move; exact rfl) | (apply EvW.assign; exact rfl) | (apply EvW.load; exact rfl; exact ScalC.eq; (focus ((repeat (first | exact Take.head | apply Take.tail)); done)); exact rfl) | (apply EvW.lenL; exact rfl; exact UndC.eq) | (apply EvW.cmpT; exact rfl; exact rfl; exact rfl; omega) | (apply EvW.cmpF; exact rfl; exact rfl; exact rfl; omega) | (apply EvW.cmp; exact rfl; exact rfl; exact rfl) | (apply EvW.arN; exact rfl; exact rfl; exact rfl; refine i64_in ?_ ?_ <;> omega) | (apply EvW.ar; exact rfl; exact rfl; exact rfl) | (apply EvW.lenRow; exact rfl; exact UndC.eq; assumption) | (apply EvW.lenOwn; exact rfl; exact UndC.eq; (focus ((repeat (first | exact Take.head | apply Take.tail)); done))) | (apply EvW.idxRow; exact rfl; exact rfl; exact UndC.eq; exact SzC.eq; assumption; omega; omega) | (apply EvW.idxOwn; exact rfl; exact rfl; exact UndC.eq; exact SzC.eq; (focus ((repeat (first | exact Take.head | apply Take.tail)); done)); omega; omega) | (apply EvW.ldInt; exact rfl; exact ScalC.eq; assumption; omega) | (apply EvW.ldIntOwn; exact rfl; exact ScalC.eq; (focus ((repeat (first | exact Take.head | apply Take.tail)); done)); omega)))
      | refine WC.seq ?_ | refine WC.region ?_ | refine WL.nil ?_ | refine WE.next ?_ | refine WC.block ?_ | refine WC.skip ?_ | refine WC.exit ?_ | refine WE.pass ?_ | refine WE.hit ?_ | refine WE.miss rfl ?_ | refine WE.out ?_ | refine WC.condT rfl ?_ | refine WC.condF rfl ?_ | refine WC.ret ?_ | refine WE.passRet ?_ | refine WE.outRet ?_ | refine WL.wanted rfl rfl rfl ?_
    try refine WC.seq ?_
    apply WC.drawQ Try.mixed
    · (focus ((repeat (first | exact Restr.nil | (apply Restr.keep; exact rfl; exact rfl) | (apply Restr.drop; exact rfl))); done))
    · exact rfl
    · decide +kernel
    · decide +kernel
    · repeat first
        | exact Draws.nil
        | (refine Draws.skip rfl rfl ?_)
        | (apply Draws.q0; exact rfl
           (first | (apply EvW.move; exact rfl) | (apply EvW.assign; exact rfl) | (apply EvW.load; exact rfl; exact ScalC.eq; (focus ((repeat (first | exact Take.head | apply Take.tail)); done)); exact rfl) | (apply EvW.lenL; exact rfl; exact UndC.eq) | (apply EvW.cmpT; exact rfl; exact rfl; exact rfl; omega) | (apply EvW.cmpF; exact rfl; exact rfl; exact rfl; omega) | (apply EvW.cmp; exact rfl; exact rfl; exact rfl) | (apply EvW.arN; exact rfl; exact rfl; exact rfl; refine i64_in ?_ ?_ <;> omega) | (apply EvW.ar; exact rfl; exact rfl; exact rfl) | (apply EvW.lenRow; exact rfl; exact UndC.eq; assumption) | (apply EvW.lenOwn; exact rfl; exact UndC.eq; (focus ((repeat (first | exact Take.head | apply Take.tail)); done))) | (apply EvW.idxRow; exact rfl; exact rfl; exact UndC.eq; exact SzC.eq; assumption; omega; omega) | (apply EvW.idxOwn; exact rfl; exact rfl; exact UndC.eq; exact SzC.eq; (focus ((repeat (first | exact Take.head | apply Take.tail)); done)); omega; omega) | (apply EvW.ldInt; exact rfl; exact ScalC.eq; assumption; omega) | (apply EvW.ldIntOwn; exact rfl; exact ScalC.eq; (focus ((repeat (first | exact Take.head | apply Take.tail)); done)); omega)))
    apply WE.writ
    · (focus ((repeat (first | exact Writ.nil | apply Writ.some | apply Writ.none)); done))
    repeat first
      | (apply WL.q; exact rfl; exact rfl; exact rfl; (first | (apply EvW.move; exact rfl) | (apply EvW.assign; exact rfl) | (apply EvW.load; exact rfl; exact ScalC.eq; (focus ((repeat (first | exact Take.head | apply Take.tail)); done)); exact rfl) | (apply EvW.lenL; exact rfl; exact UndC.eq) | (apply EvW.cmpT; exact rfl; exact rfl; exact rfl; omega) | (apply EvW.cmpF; exact rfl; exact rfl; exact rfl; omega) | (apply EvW.cmp; exact rfl; exact rfl; exact rfl) | (apply EvW.arN; exact rfl; exact rfl; exact rfl; refine i64_in ?_ ?_ <;> omega) | (apply EvW.ar; exact rfl; exact rfl; exact rfl) | (apply EvW.lenRow; exact rfl; exact UndC.eq; assumption) | (apply EvW.lenOwn; exact rfl; exact UndC.eq; (focus ((repeat (first | exact Take.head | apply Take.tail)); done))) | (apply EvW.idxRow; exact rfl; exact rfl; exact UndC.eq; exact SzC.eq; assumption; omega; omega) | (apply EvW.idxOwn; exact rfl; exact rfl; exact UndC.eq; exact SzC.eq; (focus ((repeat (first | exact Take.head | apply Take.tail)); done)); omega; omega) | (apply EvW.ldInt; exact rfl; exact ScalC.eq; assumption; omega) | (apply EvW.ldIntOwn; exact rfl; exact ScalC.eq; (focus ((repeat (first | exact Take.head | apply Take.tail)); done)); omega)))
      | refine WC.seq ?_ | refine WC.region ?_ | refine WL.nil ?_ | refine WE.next ?_ | refine WC.block ?_ | refine WC.skip ?_ | refine WC.exit ?_ | refine WE.pass ?_ | refine WE.hit ?_ | refine WE.miss rfl ?_ | refine WE.out ?_ | refine WC.condT rfl ?_ | refine WC.condF rfl ?_ | refine WC.ret ?_ | refine WE.passRet ?_ | refine WE.outRet ?_ | refine WL.wanted rfl rfl rfl ?_
    exact WE.again (k + 1) (by omega) ⟨rfl, rfl, rfl, rfl, trivial⟩ (fun _ h => h) (by omega)
  · repeat first
      | (apply WL.q; exact rfl; exact rfl; exact rfl; (first | (apply EvW.move; exact rfl) | (apply EvW.assign; exact rfl) | (apply EvW.load; exact rfl; exact ScalC.eq; (focus ((repeat (first | exact Take.head | apply Take.tail)); done)); exact rfl) | (apply EvW.lenL; exact rfl; exact UndC.eq) | (apply EvW.cmpT; exact rfl; exact rfl; exact rfl; omega) | (apply EvW.cmpF; exact rfl; exact rfl; exact rfl; omega) | (apply EvW.cmp; exact rfl; exact rfl; exact rfl) | (apply EvW.arN; exact rfl; exact rfl; exact rfl; refine i64_in ?_ ?_ <;> omega) | (apply EvW.ar; exact rfl; exact rfl; exact rfl) | (apply EvW.lenRow; exact rfl; exact UndC.eq; assumption) | (apply EvW.lenOwn; exact rfl; exact UndC.eq; (focus ((repeat (first | exact Take.head | apply Take.tail)); done))) | (apply EvW.idxRow; exact rfl; exact rfl; exact UndC.eq; exact SzC.eq; assumption; omega; omega) | (apply EvW.idxOwn; exact rfl; exact rfl; exact UndC.eq; exact SzC.eq; (focus ((repeat (first | exact Take.head | apply Take.tail)); done)); omega; omega) | (apply EvW.ldInt; exact rfl; exact ScalC.eq; assumption; omega) | (apply EvW.ldIntOwn; exact rfl; exact ScalC.eq; (focus ((repeat (first | exact Take.head | apply Take.tail)); done)); omega)))
      | refine WC.seq ?_ | refine WC.region ?_ | refine WL.nil ?_ | refine WE.next ?_ | refine WC.block ?_ | refine WC.skip ?_ | refine WC.exit ?_ | refine WE.pass ?_ | refine WE.hit ?_ | refine WE.miss rfl ?_ | refine WE.out ?_ | refine WC.condT rfl ?_ | refine WC.condF rfl ?_ | refine WC.ret ?_ | refine WE.passRet ?_ | refine WE.outRet ?_ | refine WL.wanted rfl rfl rfl ?_
    refine WE.ret1 rfl rfl ?_
    exact ⟨rfl, rfl⟩
end Go.Proofs.Ytifdmlgmennmcaa
