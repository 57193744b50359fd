/- Statuses and orders of a payload. -/
import Derived.Test.YtdnpofigagdabaaTeleG
namespace Go.Proofs.Ytdnpofigagdabaa
open Go.RowKit Go.BK

theorem read4_good {l : List UInt8} {h : Q4} {fv : Value} {q : Nat} {U : TypeId} {w : World} {S : BSet} (k : Tri Try.prog 41 #[str l, i64 1, fv] w S fun u A => (u = i64 3 ∧ A = [] ∧ ¬ sGood h l) ∨ (u = i64 0 ∧ sGood h l ∧ ∃ a b y d : Value, A = [.blk q #[a, b, y, d] U, .own 3 1 (a) (tpart l 1 h.la.length).length ((tpart l 1 h.la.length).map i64), .own 3 1 (b) (tpart l (1 + h.la.length) h.lb.length).length ((tpart l (1 + h.la.length) h.lb.length).map i64), .own 3 1 (y) (tpart l (1 + h.la.length + h.lb.length) h.ly.length).length ((tpart l (1 + h.la.length + h.lb.length) h.ly.length).map i64), .own 3 1 (d) (tpart l (1 + h.la.length + h.lb.length + h.ly.length) h.ld.length).length ((tpart l (1 + h.la.length + h.lb.length + h.ly.length) h.ld.length).map i64)])) (hg : sGood h l) :
    Tri Try.prog 41 #[str l, i64 1, fv] w S fun u A => u = i64 0 ∧ ∃ a b y d : Value, A = [.blk q #[a, b, y, d] U, .own 3 1 (a) (tpart l 1 h.la.length).length ((tpart l 1 h.la.length).map i64), .own 3 1 (b) (tpart l (1 + h.la.length) h.lb.length).length ((tpart l (1 + h.la.length) h.lb.length).map i64), .own 3 1 (y) (tpart l (1 + h.la.length + h.lb.length) h.ly.length).length ((tpart l (1 + h.la.length + h.lb.length) h.ly.length).map i64), .own 3 1 (d) (tpart l (1 + h.la.length + h.lb.length + h.ly.length) h.ld.length).length ((tpart l (1 + h.la.length + h.lb.length + h.ly.length) h.ld.length).map i64)] :=
  k.mono fun _ _ h => h.elim (fun h => absurd hg h.2.2) fun h => ⟨h.1, h.2.2⟩
theorem read4_bad {l : List UInt8} {h : Q4} {fv : Value} {q : Nat} {U : TypeId} {w : World} {S : BSet} (k : Tri Try.prog 41 #[str l, i64 1, fv] w S fun u A => (u = i64 3 ∧ A = [] ∧ ¬ sGood h l) ∨ (u = i64 0 ∧ sGood h l ∧ ∃ a b y d : Value, A = [.blk q #[a, b, y, d] U, .own 3 1 (a) (tpart l 1 h.la.length).length ((tpart l 1 h.la.length).map i64), .own 3 1 (b) (tpart l (1 + h.la.length) h.lb.length).length ((tpart l (1 + h.la.length) h.lb.length).map i64), .own 3 1 (y) (tpart l (1 + h.la.length + h.lb.length) h.ly.length).length ((tpart l (1 + h.la.length + h.lb.length) h.ly.length).map i64), .own 3 1 (d) (tpart l (1 + h.la.length + h.lb.length + h.ly.length) h.ld.length).length ((tpart l (1 + h.la.length + h.lb.length + h.ly.length) h.ld.length).map i64)])) (hg : ¬ sGood h l) :
    Tri Try.prog 41 #[str l, i64 1, fv] w S fun u A => u = i64 3 ∧ A = [] :=
  k.mono fun _ _ h => h.elim (fun h => ⟨h.1, h.2.1⟩) fun h => absurd h.2.1 hg
theorem read3_good {l : List UInt8} {h : Q4} {fv : Value} {q : Nat} {U : TypeId} {w : World} {S : BSet} (k : Tri Try.prog 41 #[str l, i64 2, fv] w S fun u A => (u = i64 3 ∧ A = [] ∧ ¬ oGood h l) ∨ (u = i64 0 ∧ oGood h l ∧ ∃ a b y : Value, A = [.blk q #[a, b, y] U, .own 3 1 (a) (tpart l 1 h.lb.length).length ((tpart l 1 h.lb.length).map i64), .own 3 1 (b) (tpart l (1 + h.lb.length) h.ld.length).length ((tpart l (1 + h.lb.length) h.ld.length).map i64), .own 3 1 (y) (tpart l (1 + h.lb.length + h.ld.length) h.ly.length).length ((tpart l (1 + h.lb.length + h.ld.length) h.ly.length).map i64)])) (hg : oGood h l) :
    Tri Try.prog 41 #[str l, i64 2, fv] w S fun u A => u = i64 0 ∧ ∃ a b y : Value, A = [.blk q #[a, b, y] U, .own 3 1 (a) (tpart l 1 h.lb.length).length ((tpart l 1 h.lb.length).map i64), .own 3 1 (b) (tpart l (1 + h.lb.length) h.ld.length).length ((tpart l (1 + h.lb.length) h.ld.length).map i64), .own 3 1 (y) (tpart l (1 + h.lb.length + h.ld.length) h.ly.length).length ((tpart l (1 + h.lb.length + h.ld.length) h.ly.length).map i64)] :=
  k.mono fun _ _ h => h.elim (fun h => absurd hg h.2.2) fun h => ⟨h.1, h.2.2⟩
theorem read3_bad {l : List UInt8} {h : Q4} {fv : Value} {q : Nat} {U : TypeId} {w : World} {S : BSet} (k : Tri Try.prog 41 #[str l, i64 2, fv] w S fun u A => (u = i64 3 ∧ A = [] ∧ ¬ oGood h l) ∨ (u = i64 0 ∧ oGood h l ∧ ∃ a b y : Value, A = [.blk q #[a, b, y] U, .own 3 1 (a) (tpart l 1 h.lb.length).length ((tpart l 1 h.lb.length).map i64), .own 3 1 (b) (tpart l (1 + h.lb.length) h.ld.length).length ((tpart l (1 + h.lb.length) h.ld.length).map i64), .own 3 1 (y) (tpart l (1 + h.lb.length + h.ld.length) h.ly.length).length ((tpart l (1 + h.lb.length + h.ld.length) h.ly.length).map i64)])) (hg : ¬ oGood h l) :
    Tri Try.prog 41 #[str l, i64 2, fv] w S fun u A => u = i64 3 ∧ A = [] :=
  k.mono fun _ _ h => h.elim (fun h => ⟨h.1, h.2.1⟩) fun h => absurd h.2.1 hg
theorem trstatus_good (h : Q4) (l : List UInt8) (w : World) (S : BSet) (hS : (sepL []).sat S w) (hh : h.Seen w S) (hl : l.length ≤ 140737488355328) (hg : sGood h l) :
    Tri Try.prog 18 #[.agg #[(h).a, (h).b, (h).y, (h).d], str l] w S fun u A => ∃ a b y d : Value, u = .tuple #[.agg #[a, b, y, d], i64 0] ∧ A = [.own 3 1 (a) (tpart l 1 h.la.length).length ((tpart l 1 h.la.length).map i64), .own 3 1 (b) (tpart l (1 + h.la.length) h.lb.length).length ((tpart l (1 + h.la.length) h.lb.length).map i64), .own 3 1 (y) (tpart l (1 + h.la.length + h.lb.length) h.ly.length).length ((tpart l (1 + h.la.length + h.lb.length) h.ly.length).map i64), .own 3 1 (d) (tpart l (1 + h.la.length + h.lb.length + h.ly.length) h.ld.length).length ((tpart l (1 + h.la.length + h.lb.length + h.ly.length) h.ld.length).map i64)] := by
  refine Tri.enter (l := [.agg #[(h).a, (h).b, (h).y, (h).d], str l]) Try.func18 rfl Try.ntmps18 rfl [(0, .agg #[(h).a, (h).b, (h).y, (h).d]), (1, str l)] (subA rfl) hS ?_
  repeat first
    | refine WC.seq ?_ | refine WC.region ?_
  try refine WL.wanted rfl rfl rfl ?_
  (apply WL.box; exact rfl; exact rfl; exact rfl; intro q1)
  skip
  try refine WL.wanted rfl rfl rfl ?_
  (apply WL.alloc; exact rfl; exact ZvC.eq; exact rfl; intro r)
  repeat first
    | (apply WL.q; exact rfl; exact rfl; exact rfl; (first | (apply EvW.assign; exact rfl)))
    | refine WC.seq ?_ | refine WC.region ?_ | refine WL.nil ?_ | refine WE.next ?_
  try refine WL.wanted rfl rfl rfl ?_
  (apply WL.alloc; exact rfl; exact ZvC.eq; exact rfl; intro q)
  repeat first
    | (apply WL.q; exact rfl; exact rfl; exact rfl; (first | (apply EvW.move; exact rfl) | (apply EvW.loadAgg; exact rfl; exact AggC.eq; exact SzC.eq; (focus ((repeat (first | exact Take.head | apply Take.tail)); done)); (focus ((repeat (first | exact SubL.nil | apply SubL.cons | apply SubL.succ)); done)))))
    | refine WC.seq ?_ | refine WC.region ?_ | refine WL.nil ?_ | refine WE.next ?_
  try refine WL.wanted rfl rfl rfl ?_
  apply WL.callA ([])
  · exact rfl
  · exact rfl
  · exact fun w => Try.call30 _ w
  · (focus ((repeat (first | exact TakeL.nil | apply TakeL.cons | exact Take.head | apply Take.tail)); done))
  · exact fun w1 S1 hS1 hs1 ho1 => status_spec h q w1 S1 hS1 (hh.down hs1)
  rintro _ _ ⟨f, rfl, rfl⟩
  first | refine WL.app4 ?_ | refine WL.app3 ?_ | refine WL.app2 ?_ | refine WL.app1 ?_ | refine WL.app0 ?_ | skip
  skip
  try refine WL.wanted rfl rfl rfl ?_
  apply WL.callA ([.blk q #[.slice none 0 0, .slice none 0 0, .slice none 0 0, .slice none 0 0] 44])
  · exact rfl
  · exact rfl
  · exact fun w => Try.call41 _ w
  · (focus ((repeat (first | exact TakeL.nil | apply TakeL.cons | exact Take.head | apply Take.tail)); done))
  · exact fun w1 S1 hS1 hs1 ho1 => (read4_good (read4_spec l 1 _ q 44 h.la.length h.lb.length h.ly.length h.ld.length 1 2 1 1 w1 S1 hS1 hl (by decide) ((ho1 (.blk f #[ptr q 0, i64 (h.la.length : Int), i64 1, ptr q 1, i64 (h.lb.length : Int), i64 2, ptr q 2, i64 (h.ly.length : Int), i64 1, ptr q 3, i64 (h.ld.length : Int), i64 1] 97) _ (by (focus ((repeat (first | exact Take.head | apply Take.tail)); done)))).blkRow rfl (fun k u h => by simpa [flC] using h) (by decide)) hh.na hh.nb hh.ny hh.nd) hg)
  rintro _ _ ⟨rfl, a, b, y, d, rfl⟩
  first | refine WL.app4 ?_ | refine WL.app3 ?_ | refine WL.app2 ?_ | refine WL.app1 ?_ | refine WL.app0 ?_ | skip
  repeat first
    | (apply WL.q; exact rfl; exact rfl; exact rfl; (first | (apply EvW.move; exact rfl) | (apply EvW.assign; exact rfl) | (apply EvW.cmpF; exact rfl; exact rfl; exact rfl; omega) | (apply EvW.loadAgg; exact rfl; exact AggC.eq; exact SzC.eq; (focus ((repeat (first | exact Take.head | apply Take.tail)); done)); (focus ((repeat (first | exact SubL.nil | apply SubL.cons | apply SubL.succ)); done)))))
    | refine WC.seq ?_ | refine WC.region ?_ | refine WL.nil ?_ | refine WE.next ?_ | refine WC.skip ?_ | refine WC.condF rfl ?_
  (first | refine WL.slOwn (v := a) (by (focus ((repeat (first | exact Take.head | apply Take.tail)); done))) ?_ | refine WC.slOwn (v := a) (by (focus ((repeat (first | exact Take.head | apply Take.tail)); done))) ?_)
  intro hc_a ho_a
  (first | refine WL.slOwn (v := b) (by (focus ((repeat (first | exact Take.head | apply Take.tail)); done))) ?_ | refine WC.slOwn (v := b) (by (focus ((repeat (first | exact Take.head | apply Take.tail)); done))) ?_)
  intro hc_b ho_b
  (first | refine WL.slOwn (v := y) (by (focus ((repeat (first | exact Take.head | apply Take.tail)); done))) ?_ | refine WC.slOwn (v := y) (by (focus ((repeat (first | exact Take.head | apply Take.tail)); done))) ?_)
  intro hc_y ho_y
  (first | refine WL.slOwn (v := d) (by (focus ((repeat (first | exact Take.head | apply Take.tail)); done))) ?_ | refine WC.slOwn (v := d) (by (focus ((repeat (first | exact Take.head | apply Take.tail)); done))) ?_)
  intro hc_d ho_d
  have hall : ([a, b, y, d] : List Value).all (·.oneCell') = true := by
    simp at ho_a ho_b ho_y ho_d
    simp [ho_a, ho_b, ho_y, ho_d]
  clear hc_a hc_b hc_y hc_d ho_a ho_b ho_y ho_d
  repeat first
    | (apply WL.q; exact rfl; exact rfl; exact rfl; (first | (apply EvW.assign; exact rfl)))
    | refine WL.nil ?_ | refine WE.next ?_ | refine WC.ret ?_ | (apply WL.store; exact rfl; exact rfl; (first | assumption | exact rfl); exact SzC.eq; (first | assumption | exact rfl); (focus ((repeat (first | apply UpdC.head | apply UpdC.tail | exact SetMany.nil | apply SetMany.cons | apply SetMany.succ)); done)))
  (apply WE.retC2 (A' := [.own 3 1 (a) (tpart l 1 h.la.length).length ((tpart l 1 h.la.length).map i64), .own 3 1 (b) (tpart l (1 + h.la.length) h.lb.length).length ((tpart l (1 + h.la.length) h.lb.length).map i64), .own 3 1 (y) (tpart l (1 + h.la.length + h.lb.length) h.ly.length).length ((tpart l (1 + h.la.length + h.lb.length) h.ly.length).map i64), .own 3 1 (d) (tpart l (1 + h.la.length + h.lb.length + h.ly.length) h.ld.length).length ((tpart l (1 + h.la.length + h.lb.length + h.ly.length) h.ld.length).map i64)]); exact rfl; exact rfl; exact rfl; (focus ((repeat (first | exact Take.head | apply Take.tail)); done)); exact AggC.eq; exact SzC.eq; exact fun _ h => h.keep (by (focus ((repeat (first | exact TakeL.nil | apply TakeL.cons | exact Take.head | apply Take.tail)); done))))
  exact ⟨a, b, y, d, rfl, rfl⟩
theorem trstatus_bad (h : Q4) (l : List UInt8) (w : World) (S : BSet) (hS : (sepL []).sat S w) (hh : h.Seen w S) (hl : l.length ≤ 140737488355328) (hg : ¬ sGood h l) :
    Tri Try.prog 18 #[.agg #[(h).a, (h).b, (h).y, (h).d], str l] w S fun u A => u = .tuple #[.agg #[.slice none 0 0, .slice none 0 0, .slice none 0 0, .slice none 0 0], i64 3] ∧ A = [] := by
  refine Tri.enter (l := [.agg #[(h).a, (h).b, (h).y, (h).d], str l]) Try.func18 rfl Try.ntmps18 rfl [(0, .agg #[(h).a, (h).b, (h).y, (h).d]), (1, str l)] (subA rfl) hS ?_
  repeat first
    | refine WC.seq ?_ | refine WC.region ?_
  try refine WL.wanted rfl rfl rfl ?_
  (apply WL.box; exact rfl; exact rfl; exact rfl; intro q1)
  skip
  try refine WL.wanted rfl rfl rfl ?_
  (apply WL.alloc; exact rfl; exact ZvC.eq; exact rfl; intro r)
  repeat first
    | (apply WL.q; exact rfl; exact rfl; exact rfl; (first | (apply EvW.assign; exact rfl)))
    | refine WC.seq ?_ | refine WC.region ?_ | refine WL.nil ?_ | refine WE.next ?_
  try refine WL.wanted rfl rfl rfl ?_
  (apply WL.alloc; exact rfl; exact ZvC.eq; exact rfl; intro q)
  repeat first
    | (apply WL.q; exact rfl; exact rfl; exact rfl; (first | (apply EvW.move; exact rfl) | (apply EvW.loadAgg; exact rfl; exact AggC.eq; exact SzC.eq; (focus ((repeat (first | exact Take.head | apply Take.tail)); done)); (focus ((repeat (first | exact SubL.nil | apply SubL.cons | apply SubL.succ)); done)))))
    | refine WC.seq ?_ | refine WC.region ?_ | refine WL.nil ?_ | refine WE.next ?_
  try refine WL.wanted rfl rfl rfl ?_
  apply WL.callA ([])
  · exact rfl
  · exact rfl
  · exact fun w => Try.call30 _ w
  · (focus ((repeat (first | exact TakeL.nil | apply TakeL.cons | exact Take.head | apply Take.tail)); done))
  · exact fun w1 S1 hS1 hs1 ho1 => status_spec h q w1 S1 hS1 (hh.down hs1)
  rintro _ _ ⟨f, rfl, rfl⟩
  first | refine WL.app4 ?_ | refine WL.app3 ?_ | refine WL.app2 ?_ | refine WL.app1 ?_ | refine WL.app0 ?_ | skip
  skip
  try refine WL.wanted rfl rfl rfl ?_
  apply WL.callA ([.blk q #[.slice none 0 0, .slice none 0 0, .slice none 0 0, .slice none 0 0] 44])
  · exact rfl
  · exact rfl
  · exact fun w => Try.call41 _ w
  · (focus ((repeat (first | exact TakeL.nil | apply TakeL.cons | exact Take.head | apply Take.tail)); done))
  · exact fun w1 S1 hS1 hs1 ho1 => (read4_bad (read4_spec l 1 _ q 44 h.la.length h.lb.length h.ly.length h.ld.length 1 2 1 1 w1 S1 hS1 hl (by decide) ((ho1 (.blk f #[ptr q 0, i64 (h.la.length : Int), i64 1, ptr q 1, i64 (h.lb.length : Int), i64 2, ptr q 2, i64 (h.ly.length : Int), i64 1, ptr q 3, i64 (h.ld.length : Int), i64 1] 97) _ (by (focus ((repeat (first | exact Take.head | apply Take.tail)); done)))).blkRow rfl (fun k u h => by simpa [flC] using h) (by decide)) hh.na hh.nb hh.ny hh.nd) hg)
  rintro _ _ ⟨rfl, rfl⟩
  first | refine WL.app4 ?_ | refine WL.app3 ?_ | refine WL.app2 ?_ | refine WL.app1 ?_ | refine WL.app0 ?_ | skip
  repeat first
    | (apply WL.q; exact rfl; exact rfl; exact rfl; (first | (apply EvW.move; exact rfl) | (apply EvW.assign; exact rfl) | (apply EvW.cmpT; exact rfl; exact rfl; exact rfl; omega) | (apply EvW.build; exact PlC.eq; exact ZvC.eq; exact rfl; exact rfl; (focus ((repeat (first | exact Fills.nil | (apply Fills.cons; exact rfl; (first | assumption | exact rfl); exact rfl) | exact SetMany.nil | apply SetMany.cons | apply SetMany.succ)); done)))))
    | refine WC.seq ?_ | refine WC.region ?_ | refine WL.nil ?_ | refine WE.next ?_ | refine WC.condT rfl ?_ | refine WC.ret ?_ | refine WE.passRet ?_ | (apply WL.store; exact rfl; exact rfl; (first | assumption | exact rfl); exact SzC.eq; (first | assumption | exact rfl); (focus ((repeat (first | apply UpdC.head | apply UpdC.tail | exact SetMany.nil | apply SetMany.cons | apply SetMany.succ)); done)))
  (apply WE.retC2 (A' := []); exact rfl; exact rfl; exact rfl; (focus ((repeat (first | exact Take.head | apply Take.tail)); done)); exact AggC.eq; exact SzC.eq; exact fun _ h => h.keep (by (focus ((repeat (first | exact TakeL.nil | apply TakeL.cons | exact Take.head | apply Take.tail)); done))))
  exact ⟨rfl, rfl⟩
theorem trorders_good (h : Q4) (l : List UInt8) (w : World) (S : BSet) (hS : (sepL []).sat S w) (hh : h.Seen w S) (hl : l.length ≤ 140737488355328) (hg : oGood h l) :
    Tri Try.prog 20 #[.agg #[(h).a, (h).b, (h).y, (h).d], str l] w S fun u A => ∃ a b y : Value, u = .tuple #[.agg #[a, b, y], i64 0] ∧ A = [.own 3 1 (a) (tpart l 1 h.lb.length).length ((tpart l 1 h.lb.length).map i64), .own 3 1 (b) (tpart l (1 + h.lb.length) h.ld.length).length ((tpart l (1 + h.lb.length) h.ld.length).map i64), .own 3 1 (y) (tpart l (1 + h.lb.length + h.ld.length) h.ly.length).length ((tpart l (1 + h.lb.length + h.ld.length) h.ly.length).map i64)] := by
  refine Tri.enter (l := [.agg #[(h).a, (h).b, (h).y, (h).d], str l]) Try.func20 rfl Try.ntmps20 rfl [(0, .agg #[(h).a, (h).b, (h).y, (h).d]), (1, str l)] (subA rfl) hS ?_
  repeat first
    | refine WC.seq ?_ | refine WC.region ?_
  try refine WL.wanted rfl rfl rfl ?_
  (apply WL.box; exact rfl; exact rfl; exact rfl; intro q1)
  skip
  try refine WL.wanted rfl rfl rfl ?_
  (apply WL.alloc; exact rfl; exact ZvC.eq; exact rfl; intro r)
  repeat first
    | (apply WL.q; exact rfl; exact rfl; exact rfl; (first | (apply EvW.assign; exact rfl)))
    | refine WC.seq ?_ | refine WC.region ?_ | refine WL.nil ?_ | refine WE.next ?_
  try refine WL.wanted rfl rfl rfl ?_
  (apply WL.alloc; exact rfl; exact ZvC.eq; exact rfl; intro q)
  repeat first
    | (apply WL.q; exact rfl; exact rfl; exact rfl; (first | (apply EvW.move; exact rfl) | (apply EvW.loadAgg; exact rfl; exact AggC.eq; exact SzC.eq; (focus ((repeat (first | exact Take.head | apply Take.tail)); done)); (focus ((repeat (first | exact SubL.nil | apply SubL.cons | apply SubL.succ)); done)))))
    | refine WC.seq ?_ | refine WC.region ?_ | refine WL.nil ?_ | refine WE.next ?_
  try refine WL.wanted rfl rfl rfl ?_
  apply WL.callA ([])
  · exact rfl
  · exact rfl
  · exact fun w => Try.call33 _ w
  · (focus ((repeat (first | exact TakeL.nil | apply TakeL.cons | exact Take.head | apply Take.tail)); done))
  · exact fun w1 S1 hS1 hs1 ho1 => orders_spec h q w1 S1 hS1 (hh.down hs1)
  rintro _ _ ⟨f, rfl, rfl⟩
  first | refine WL.app4 ?_ | refine WL.app3 ?_ | refine WL.app2 ?_ | refine WL.app1 ?_ | refine WL.app0 ?_ | skip
  skip
  try refine WL.wanted rfl rfl rfl ?_
  apply WL.callA ([.blk q #[.slice none 0 0, .slice none 0 0, .slice none 0 0] 46])
  · exact rfl
  · exact rfl
  · exact fun w => Try.call41 _ w
  · (focus ((repeat (first | exact TakeL.nil | apply TakeL.cons | exact Take.head | apply Take.tail)); done))
  · exact fun w1 S1 hS1 hs1 ho1 => (read3_good (read3_spec l 2 _ q 46 h.lb.length h.ld.length h.ly.length 2 2 1 w1 S1 hS1 hl (by decide) ((ho1 (.blk f #[ptr q 0, i64 (h.lb.length : Int), i64 2, ptr q 1, i64 (h.ld.length : Int), i64 2, ptr q 2, i64 (h.ly.length : Int), i64 1] 97) _ (by (focus ((repeat (first | exact Take.head | apply Take.tail)); done)))).blkRow rfl (fun k u h => by simpa [flC] using h) (by decide)) hh.nb hh.nd hh.ny) hg)
  rintro _ _ ⟨rfl, a, b, y, rfl⟩
  first | refine WL.app4 ?_ | refine WL.app3 ?_ | refine WL.app2 ?_ | refine WL.app1 ?_ | refine WL.app0 ?_ | skip
  repeat first
    | (apply WL.q; exact rfl; exact rfl; exact rfl; (first | (apply EvW.move; exact rfl) | (apply EvW.assign; exact rfl) | (apply EvW.cmpF; exact rfl; exact rfl; exact rfl; omega) | (apply EvW.loadAgg; exact rfl; exact AggC.eq; exact SzC.eq; (focus ((repeat (first | exact Take.head | apply Take.tail)); done)); (focus ((repeat (first | exact SubL.nil | apply SubL.cons | apply SubL.succ)); done)))))
    | refine WC.seq ?_ | refine WC.region ?_ | refine WL.nil ?_ | refine WE.next ?_ | refine WC.skip ?_ | refine WC.condF rfl ?_
  (first | refine WL.slOwn (v := a) (by (focus ((repeat (first | exact Take.head | apply Take.tail)); done))) ?_ | refine WC.slOwn (v := a) (by (focus ((repeat (first | exact Take.head | apply Take.tail)); done))) ?_)
  intro hc_a ho_a
  (first | refine WL.slOwn (v := b) (by (focus ((repeat (first | exact Take.head | apply Take.tail)); done))) ?_ | refine WC.slOwn (v := b) (by (focus ((repeat (first | exact Take.head | apply Take.tail)); done))) ?_)
  intro hc_b ho_b
  (first | refine WL.slOwn (v := y) (by (focus ((repeat (first | exact Take.head | apply Take.tail)); done))) ?_ | refine WC.slOwn (v := y) (by (focus ((repeat (first | exact Take.head | apply Take.tail)); done))) ?_)
  intro hc_y ho_y
  have hall : ([a, b, y] : List Value).all (·.oneCell') = true := by
    simp at ho_a ho_b ho_y
    simp [ho_a, ho_b, ho_y]
  clear hc_a hc_b hc_y ho_a ho_b ho_y
  repeat first
    | (apply WL.q; exact rfl; exact rfl; exact rfl; (first | (apply EvW.assign; exact rfl)))
    | refine WL.nil ?_ | refine WE.next ?_ | refine WC.ret ?_ | (apply WL.store; exact rfl; exact rfl; (first | assumption | exact rfl); exact SzC.eq; (first | assumption | exact rfl); (focus ((repeat (first | apply UpdC.head | apply UpdC.tail | exact SetMany.nil | apply SetMany.cons | apply SetMany.succ)); done)))
  (apply WE.retC2 (A' := [.own 3 1 (a) (tpart l 1 h.lb.length).length ((tpart l 1 h.lb.length).map i64), .own 3 1 (b) (tpart l (1 + h.lb.length) h.ld.length).length ((tpart l (1 + h.lb.length) h.ld.length).map i64), .own 3 1 (y) (tpart l (1 + h.lb.length + h.ld.length) h.ly.length).length ((tpart l (1 + h.lb.length + h.ld.length) h.ly.length).map i64)]); exact rfl; exact rfl; exact rfl; (focus ((repeat (first | exact Take.head | apply Take.tail)); done)); exact AggC.eq; exact SzC.eq; exact fun _ h => h.keep (by (focus ((repeat (first | exact TakeL.nil | apply TakeL.cons | exact Take.head | apply Take.tail)); done))))
  exact ⟨a, b, y, rfl, rfl⟩
theorem trorders_bad (h : Q4) (l : List UInt8) (w : World) (S : BSet) (hS : (sepL []).sat S w) (hh : h.Seen w S) (hl : l.length ≤ 140737488355328) (hg : ¬ oGood h l) :
    Tri Try.prog 20 #[.agg #[(h).a, (h).b, (h).y, (h).d], str l] w S fun u A => u = .tuple #[.agg #[.slice none 0 0, .slice none 0 0, .slice none 0 0], i64 3] ∧ A = [] := by
  refine Tri.enter (l := [.agg #[(h).a, (h).b, (h).y, (h).d], str l]) Try.func20 rfl Try.ntmps20 rfl [(0, .agg #[(h).a, (h).b, (h).y, (h).d]), (1, str l)] (subA rfl) hS ?_
  repeat first
    | refine WC.seq ?_ | refine WC.region ?_
  try refine WL.wanted rfl rfl rfl ?_
  (apply WL.box; exact rfl; exact rfl; exact rfl; intro q1)
  skip
  try refine WL.wanted rfl rfl rfl ?_
  (apply WL.alloc; exact rfl; exact ZvC.eq; exact rfl; intro r)
  repeat first
    | (apply WL.q; exact rfl; exact rfl; exact rfl; (first | (apply EvW.assign; exact rfl)))
    | refine WC.seq ?_ | refine WC.region ?_ | refine WL.nil ?_ | refine WE.next ?_
  try refine WL.wanted rfl rfl rfl ?_
  (apply WL.alloc; exact rfl; exact ZvC.eq; exact rfl; intro q)
  repeat first
    | (apply WL.q; exact rfl; exact rfl; exact rfl; (first | (apply EvW.move; exact rfl) | (apply EvW.loadAgg; exact rfl; exact AggC.eq; exact SzC.eq; (focus ((repeat (first | exact Take.head | apply Take.tail)); done)); (focus ((repeat (first | exact SubL.nil | apply SubL.cons | apply SubL.succ)); done)))))
    | refine WC.seq ?_ | refine WC.region ?_ | refine WL.nil ?_ | refine WE.next ?_
  try refine WL.wanted rfl rfl rfl ?_
  apply WL.callA ([])
  · exact rfl
  · exact rfl
  · exact fun w => Try.call33 _ w
  · (focus ((repeat (first | exact TakeL.nil | apply TakeL.cons | exact Take.head | apply Take.tail)); done))
  · exact fun w1 S1 hS1 hs1 ho1 => orders_spec h q w1 S1 hS1 (hh.down hs1)
  rintro _ _ ⟨f, rfl, rfl⟩
  first | refine WL.app4 ?_ | refine WL.app3 ?_ | refine WL.app2 ?_ | refine WL.app1 ?_ | refine WL.app0 ?_ | skip
  skip
  try refine WL.wanted rfl rfl rfl ?_
  apply WL.callA ([.blk q #[.slice none 0 0, .slice none 0 0, .slice none 0 0] 46])
  · exact rfl
  · exact rfl
  · exact fun w => Try.call41 _ w
  · (focus ((repeat (first | exact TakeL.nil | apply TakeL.cons | exact Take.head | apply Take.tail)); done))
  · exact fun w1 S1 hS1 hs1 ho1 => (read3_bad (read3_spec l 2 _ q 46 h.lb.length h.ld.length h.ly.length 2 2 1 w1 S1 hS1 hl (by decide) ((ho1 (.blk f #[ptr q 0, i64 (h.lb.length : Int), i64 2, ptr q 1, i64 (h.ld.length : Int), i64 2, ptr q 2, i64 (h.ly.length : Int), i64 1] 97) _ (by (focus ((repeat (first | exact Take.head | apply Take.tail)); done)))).blkRow rfl (fun k u h => by simpa [flC] using h) (by decide)) hh.nb hh.nd hh.ny) hg)
  rintro _ _ ⟨rfl, rfl⟩
  first | refine WL.app4 ?_ | refine WL.app3 ?_ | refine WL.app2 ?_ | refine WL.app1 ?_ | refine WL.app0 ?_ | skip
  repeat first
    | (apply WL.q; exact rfl; exact rfl; exact rfl; (first | (apply EvW.move; exact rfl) | (apply EvW.assign; exact rfl) | (apply EvW.cmpT; exact rfl; exact rfl; exact rfl; omega) | (apply EvW.build; exact PlC.eq; exact ZvC.eq; exact rfl; exact rfl; (focus ((repeat (first | exact Fills.nil | (apply Fills.cons; exact rfl; (first | assumption | exact rfl); exact rfl) | exact SetMany.nil | apply SetMany.cons | apply SetMany.succ)); done)))))
    | refine WC.seq ?_ | refine WC.region ?_ | refine WL.nil ?_ | refine WE.next ?_ | refine WC.condT rfl ?_ | refine WC.ret ?_ | refine WE.passRet ?_ | (apply WL.store; exact rfl; exact rfl; (first | assumption | exact rfl); exact SzC.eq; (first | assumption | exact rfl); (focus ((repeat (first | apply UpdC.head | apply UpdC.tail | exact SetMany.nil | apply SetMany.cons | apply SetMany.succ)); done)))
  (apply WE.retC2 (A' := []); exact rfl; exact rfl; exact rfl; (focus ((repeat (first | exact Take.head | apply Take.tail)); done)); exact AggC.eq; exact SzC.eq; exact fun _ h => h.keep (by (focus ((repeat (first | exact TakeL.nil | apply TakeL.cons | exact Take.head | apply Take.tail)); done))))
  exact ⟨rfl, rfl⟩
end Go.Proofs.Ytdnpofigagdabaa
