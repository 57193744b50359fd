/- The law of statuses, orders, blocks and their payloads. -/
import Derived.Test.YtdnpofigagdabaaTeleM
import Derived.Test.YtdnpofigagdabaaLibT
namespace Go.Proofs.Ytdnpofigagdabaa
open Go.RowKit Go.BK

def BR3 (l : List UInt8) (r : Int × Int × Int × Int) : Prop := (bGood l ∧ r = ((ra l).1, (rb l).1, (rc l).1, 0)) ∨ (¬ bGood l ∧ r = (0, 0, 0, 3))
theorem BR3.ex (l : List UInt8) : ∃ r, BR3 l r := by
  by_cases hg : bGood l
  · exact ⟨_, .inl ⟨hg, rfl⟩⟩
  · exact ⟨_, .inr ⟨hg, rfl⟩⟩
theorem teleBytes_law (h s : Q4) (o : Q3) (x y z : Int) (l : List UInt8) (w : World) (S : BSet) (hS : (sepL []).sat S w) (hh : h.Seen w S) (hs : s.Seen w S) (ho : o.Seen w S) (hx : x ≤ 9223372036854775807) (hy : y ≤ 9223372036854775807) (hz : z ≤ 9223372036854775807) (hl : l.length ≤ 140737488355328) :
    Tri Try.prog 5 #[.agg #[(h).a, (h).b, (h).y, (h).d], .agg #[s.a, s.b, s.y, s.d, o.a, o.b, o.y, i64 x, i64 y, i64 z], str l] w S fun u A => u = .bool true := by
  refine Tri.enter (l := [.agg #[(h).a, (h).b, (h).y, (h).d], .agg #[s.a, s.b, s.y, s.d, o.a, o.b, o.y, i64 x, i64 y, i64 z], str l]) Try.func5 rfl Try.ntmps5 rfl [(0, .agg #[(h).a, (h).b, (h).y, (h).d]), (1, .agg #[s.a, s.b, s.y, s.d, o.a, o.b, o.y, i64 x, i64 y, i64 z]), (2, str l)] (subA rfl) hS ?_
  obtain ⟨e1, zs, hrs⟩ := RS.ex h l
  obtain ⟨e2, zo, hro⟩ := RO.ex h l
  obtain ⟨rr, hbr⟩ := BR3.ex l
  have ks := hrs.le hh
  have ko := hro.le hh
  repeat first
    | refine WC.seq ?_ | refine WC.region ?_
  try refine WL.wanted rfl rfl rfl ?_
  (apply WL.box; exact rfl; exact rfl; exact rfl; intro q1)
  skip
  try refine WL.wanted rfl rfl rfl ?_
  (apply WL.box; exact rfl; exact rfl; exact rfl; intro q2)
  repeat first
    | (apply WL.q; exact rfl; exact rfl; exact rfl; (first | (apply EvW.assign; exact rfl)))
    | refine WC.seq ?_ | refine WC.region ?_ | refine WL.nil ?_ | refine WE.next ?_
  try refine WL.wanted rfl rfl rfl ?_
  apply WL.callA ([])
  · exact rfl
  · exact rfl
  · exact fun w => Try.call8 _ w
  · (focus ((repeat (first | exact TakeL.nil | apply TakeL.cons | exact Take.head | apply Take.tail)); done))
  · exact fun w1 S1 hS1 hs1 ho1 => lives10_spec w1 S1 hS1
  rintro _ _ ⟨rfl, rfl⟩
  first | refine WL.app4 ?_ | refine WL.app3 ?_ | refine WL.app2 ?_ | refine WL.app1 ?_ | refine WL.app0 ?_ | skip
  repeat first
    | (apply WL.q; exact rfl; exact rfl; exact rfl; (first | (apply EvW.fieldAddr0; exact rfl; exact FldC.eq) | (apply EvW.notT; exact rfl) | (apply EvW.loadAgg; exact rfl; exact AggC.eq; exact SzC.eq; (focus ((repeat (first | exact Take.head | apply Take.tail)); done)); (focus ((repeat (first | exact SubL.nil | apply SubL.cons | apply SubL.succ)); done)))))
    | refine WC.seq ?_ | refine WC.region ?_ | refine WL.nil ?_ | refine WE.next ?_ | refine WC.skip ?_ | refine WC.condF rfl ?_
  try refine WL.wanted rfl rfl rfl ?_
  apply WL.callA ([])
  · exact rfl
  · exact rfl
  · exact fun w => Try.call12 _ w
  · (focus ((repeat (first | exact TakeL.nil | apply TakeL.cons | exact Take.head | apply Take.tail)); done))
  · exact fun w1 S1 hS1 hs1 ho1 => tstatus_spec h s w1 S1 hS1 (hh.down hs1) (hs.down hs1)
  rintro _ _ ⟨rfl, rfl⟩
  first | refine WL.app4 ?_ | refine WL.app3 ?_ | refine WL.app2 ?_ | refine WL.app1 ?_ | refine WL.app0 ?_ | skip
  repeat first
    | (apply WL.q; exact rfl; exact rfl; exact rfl; (first | (apply EvW.move; exact rfl) | (apply EvW.assign; exact rfl) | (apply EvW.fieldAddr0; exact rfl; exact FldC.eq) | (apply EvW.extract; exact rfl; exact rfl) | (apply EvW.loadAgg; exact rfl; exact AggC.eq; exact SzC.eq; (focus ((repeat (first | exact Take.head | apply Take.tail)); done)); (focus ((repeat (first | exact SubL.nil | apply SubL.cons | apply SubL.succ)); done)))))
    | refine WC.seq ?_ | refine WC.region ?_ | refine WL.nil ?_ | refine WE.next ?_
  try refine WL.wanted rfl rfl rfl ?_
  apply WL.callA ([])
  · exact rfl
  · exact rfl
  · exact fun w => Try.call13 _ w
  · (focus ((repeat (first | exact TakeL.nil | apply TakeL.cons | exact Take.head | apply Take.tail)); done))
  · exact fun w1 S1 hS1 hs1 ho1 => rstatus_spec h s w1 S1 hS1 (hh.down hs1) (hs.down hs1)
  rintro _ _ ⟨rfl, rfl⟩
  first | refine WL.app4 ?_ | refine WL.app3 ?_ | refine WL.app2 ?_ | refine WL.app1 ?_ | refine WL.app0 ?_ | skip
  generalize (if sOk h s = true then sPay s else []) = p1
  generalize (if sOk h s = true then (0 : Int) else 32) = c1
  repeat first
    | (apply WL.q; exact rfl; exact rfl; exact rfl; (first | (apply EvW.move; exact rfl) | (apply EvW.assign; exact rfl) | (apply EvW.fieldAddr0; exact rfl; exact FldC.eq) | (apply EvW.extract; exact rfl; exact rfl) | (apply EvW.loadAgg; exact rfl; exact AggC.eq; exact SzC.eq; (focus ((repeat (first | exact Take.head | apply Take.tail)); done)); (focus ((repeat (first | exact SubL.nil | apply SubL.cons | apply SubL.succ)); done)))))
    | refine WC.seq ?_ | refine WC.region ?_ | refine WL.nil ?_ | refine WE.next ?_
  try refine WL.wanted rfl rfl rfl ?_
  apply WL.callA ([])
  · exact rfl
  · exact rfl
  · exact fun w => Try.call14 _ w
  · (focus ((repeat (first | exact TakeL.nil | apply TakeL.cons | exact Take.head | apply Take.tail)); done))
  · exact fun w1 S1 hS1 hs1 ho1 => torders_spec h o w1 S1 hS1 (hh.down hs1) (ho.down hs1)
  rintro _ _ ⟨rfl, rfl⟩
  first | refine WL.app4 ?_ | refine WL.app3 ?_ | refine WL.app2 ?_ | refine WL.app1 ?_ | refine WL.app0 ?_ | skip
  repeat first
    | (apply WL.q; exact rfl; exact rfl; exact rfl; (first | (apply EvW.move; exact rfl) | (apply EvW.assign; exact rfl) | (apply EvW.fieldAddr0; exact rfl; exact FldC.eq) | (apply EvW.extract; exact rfl; exact rfl) | (apply EvW.loadAgg; exact rfl; exact AggC.eq; exact SzC.eq; (focus ((repeat (first | exact Take.head | apply Take.tail)); done)); (focus ((repeat (first | exact SubL.nil | apply SubL.cons | apply SubL.succ)); done)))))
    | refine WC.seq ?_ | refine WC.region ?_ | refine WL.nil ?_ | refine WE.next ?_
  try refine WL.wanted rfl rfl rfl ?_
  apply WL.callA ([])
  · exact rfl
  · exact rfl
  · exact fun w => Try.call15 _ w
  · (focus ((repeat (first | exact TakeL.nil | apply TakeL.cons | exact Take.head | apply Take.tail)); done))
  · exact fun w1 S1 hS1 hs1 ho1 => rorders_spec h o w1 S1 hS1 (hh.down hs1) (ho.down hs1)
  rintro _ _ ⟨rfl, rfl⟩
  first | refine WL.app4 ?_ | refine WL.app3 ?_ | refine WL.app2 ?_ | refine WL.app1 ?_ | refine WL.app0 ?_ | skip
  generalize (if oOk h o = true then oPay o else []) = p2
  generalize (if oOk h o = true then (0 : Int) else 32) = c2
  repeat first
    | (apply WL.q; exact rfl; exact rfl; exact rfl; (first | (apply EvW.move; exact rfl) | (apply EvW.assign; exact rfl) | (apply EvW.fieldAddr0; exact rfl; exact FldC.eq) | (apply EvW.extract; exact rfl; exact rfl) | (apply EvW.loadAgg; exact rfl; exact AggC.eq; exact SzC.eq; (focus ((repeat (first | exact Take.head | apply Take.tail)); done)); (focus ((repeat (first | exact SubL.nil | apply SubL.cons | apply SubL.succ)); done)))))
    | refine WC.seq ?_ | refine WC.region ?_ | refine WL.nil ?_ | refine WE.next ?_
  try refine WL.wanted rfl rfl rfl ?_
  apply WL.callA ([])
  · exact rfl
  · exact rfl
  · exact fun w => Try.call16 _ w
  · (focus ((repeat (first | exact TakeL.nil | apply TakeL.cons | exact Take.head | apply Take.tail)); done))
  · exact fun w1 S1 hS1 hs1 ho1 => tblock_spec x y z w1 S1 hS1
  rintro _ _ ⟨rfl, rfl⟩
  first | refine WL.app4 ?_ | refine WL.app3 ?_ | refine WL.app2 ?_ | refine WL.app1 ?_ | refine WL.app0 ?_ | skip
  repeat first
    | (apply WL.q; exact rfl; exact rfl; exact rfl; (first | (apply EvW.move; exact rfl) | (apply EvW.assign; exact rfl) | (apply EvW.fieldAddr0; exact rfl; exact FldC.eq) | (apply EvW.extract; exact rfl; exact rfl) | (apply EvW.loadAgg; exact rfl; exact AggC.eq; exact SzC.eq; (focus ((repeat (first | exact Take.head | apply Take.tail)); done)); (focus ((repeat (first | exact SubL.nil | apply SubL.cons | apply SubL.succ)); done)))))
    | refine WC.seq ?_ | refine WC.region ?_ | refine WL.nil ?_ | refine WE.next ?_
  try refine WL.wanted rfl rfl rfl ?_
  apply WL.callA ([])
  · exact rfl
  · exact rfl
  · exact fun w => Try.call17 _ w
  · (focus ((repeat (first | exact TakeL.nil | apply TakeL.cons | exact Take.head | apply Take.tail)); done))
  · exact fun w1 S1 hS1 hs1 ho1 => rblock_spec x y z w1 S1 hS1 hx hy hz
  rintro _ _ ⟨rfl, rfl⟩
  first | refine WL.app4 ?_ | refine WL.app3 ?_ | refine WL.app2 ?_ | refine WL.app1 ?_ | refine WL.app0 ?_ | skip
  generalize (bM x y z).said = p3
  generalize (bM x y z).e = c3
  repeat first
    | (apply WL.q; exact rfl; exact rfl; exact rfl; (first | (apply EvW.move; exact rfl) | (apply EvW.assign; exact rfl) | (apply EvW.extract; exact rfl; exact rfl) | (apply EvW.cmpF; exact rfl; exact rfl; exact rfl; omega) | (apply EvW.pickF; exact rfl; exact rfl) | (apply EvW.sneS; exact rfl; exact rfl) | (apply EvW.loadAgg; exact rfl; exact AggC.eq; exact SzC.eq; (focus ((repeat (first | exact Take.head | apply Take.tail)); done)); (focus ((repeat (first | exact SubL.nil | apply SubL.cons | apply SubL.succ)); done)))))
    | refine WC.seq ?_ | refine WC.region ?_ | refine WL.nil ?_ | refine WE.next ?_ | refine WC.skip ?_ | refine WC.condF rfl ?_ | refine WL.wanted rfl rfl rfl ?_
  try refine WL.wanted rfl rfl rfl ?_
  apply WL.callA ([])
  · exact rfl
  · exact rfl
  · exact fun w => Try.call18 _ w
  · (focus ((repeat (first | exact TakeL.nil | apply TakeL.cons | exact Take.head | apply Take.tail)); done))
  · exact fun w1 S1 hS1 hs1 ho1 => trs_spec h l e1 zs w1 S1 hS1 (hh.down hs1) hl hrs
  rintro _ _ ⟨a, b, v, d, rfl, rfl⟩
  first | refine WL.app4 ?_ | refine WL.app3 ?_ | refine WL.app2 ?_ | refine WL.app1 ?_ | refine WL.app0 ?_ | skip
  repeat first
    | (apply WL.q; exact rfl; exact rfl; exact rfl; (first | (apply EvW.move; exact rfl) | (apply EvW.extract; exact rfl; exact rfl)))
  (first | refine WL.slOwn (v := a) (by (focus ((repeat (first | exact Take.head | apply Take.tail)); done))) ?_ | refine WC.slOwn (v := a) (by (focus ((repeat (first | exact Take.head | apply Take.tail)); done))) ?_)
  intro hc_a ho_a
  (first | refine WL.slOwn (v := b) (by (focus ((repeat (first | exact Take.head | apply Take.tail)); done))) ?_ | refine WC.slOwn (v := b) (by (focus ((repeat (first | exact Take.head | apply Take.tail)); done))) ?_)
  intro hc_b ho_b
  (first | refine WL.slOwn (v := v) (by (focus ((repeat (first | exact Take.head | apply Take.tail)); done))) ?_ | refine WC.slOwn (v := v) (by (focus ((repeat (first | exact Take.head | apply Take.tail)); done))) ?_)
  intro hc_v ho_v
  (first | refine WL.slOwn (v := d) (by (focus ((repeat (first | exact Take.head | apply Take.tail)); done))) ?_ | refine WC.slOwn (v := d) (by (focus ((repeat (first | exact Take.head | apply Take.tail)); done))) ?_)
  intro hc_d ho_d
  have hall : ([a, b, v, d] : List Value).all (·.oneCell') = true := by
    simp at ho_a ho_b ho_v ho_d
    simp [ho_a, ho_b, ho_v, ho_d]
  clear hc_a hc_b hc_v hc_d ho_a ho_b ho_v ho_d
  skip
  try refine WL.wanted rfl rfl rfl ?_
  (apply WL.alloc; exact rfl; exact ZvC.eq; exact rfl; intro t1)
  repeat first
    | (apply WL.q; exact rfl; exact rfl; exact rfl; (first | (apply EvW.move; exact rfl) | (apply EvW.assign; exact rfl) | (apply EvW.loadAgg; exact rfl; exact AggC.eq; exact SzC.eq; (focus ((repeat (first | exact Take.head | apply Take.tail)); done)); (focus ((repeat (first | exact SubL.nil | apply SubL.cons | apply SubL.succ)); done)))))
    | refine WC.seq ?_ | refine WC.region ?_ | refine WL.nil ?_ | refine WE.next ?_ | (apply WL.store; exact rfl; exact rfl; (first | assumption | exact rfl); exact SzC.eq; (first | assumption | exact rfl); (focus ((repeat (first | apply UpdC.head | apply UpdC.tail | exact SetMany.nil | apply SetMany.cons | apply SetMany.succ)); done)))
  try refine WL.wanted rfl rfl rfl ?_
  apply WL.callA ([])
  · exact rfl
  · exact rfl
  · exact fun w => Try.call19 _ w
  · (focus ((repeat (first | exact TakeL.nil | apply TakeL.cons | exact Take.head | apply Take.tail)); done))
  · exact fun w1 S1 hS1 hs1 ho1 => rrs_spec h l e1 zs w1 S1 hS1 (hh.down hs1) hl hrs
  rintro _ _ ⟨a', b', v', d', rfl, rfl⟩
  first | refine WL.app4 ?_ | refine WL.app3 ?_ | refine WL.app2 ?_ | refine WL.app1 ?_ | refine WL.app0 ?_ | skip
  refine WL.app4 ?_
  repeat first
    | (apply WL.q; exact rfl; exact rfl; exact rfl; (first | (apply EvW.move; exact rfl) | (apply EvW.extract; exact rfl; exact rfl)))
  (first | refine WL.slOwn (v := a') (by (focus ((repeat (first | exact Take.head | apply Take.tail)); done))) ?_ | refine WC.slOwn (v := a') (by (focus ((repeat (first | exact Take.head | apply Take.tail)); done))) ?_)
  intro hc_a' ho_a'
  (first | refine WL.slOwn (v := b') (by (focus ((repeat (first | exact Take.head | apply Take.tail)); done))) ?_ | refine WC.slOwn (v := b') (by (focus ((repeat (first | exact Take.head | apply Take.tail)); done))) ?_)
  intro hc_b' ho_b'
  (first | refine WL.slOwn (v := v') (by (focus ((repeat (first | exact Take.head | apply Take.tail)); done))) ?_ | refine WC.slOwn (v := v') (by (focus ((repeat (first | exact Take.head | apply Take.tail)); done))) ?_)
  intro hc_v' ho_v'
  (first | refine WL.slOwn (v := d') (by (focus ((repeat (first | exact Take.head | apply Take.tail)); done))) ?_ | refine WC.slOwn (v := d') (by (focus ((repeat (first | exact Take.head | apply Take.tail)); done))) ?_)
  intro hc_d' ho_d'
  have hall2 : ([a', b', v', d'] : List Value).all (·.oneCell') = true := by
    simp at ho_a' ho_b' ho_v' ho_d'
    simp [ho_a', ho_b', ho_v', ho_d']
  clear hc_a' hc_b' hc_v' hc_d' ho_a' ho_b' ho_v' ho_d'
  skip
  try refine WL.wanted rfl rfl rfl ?_
  (apply WL.alloc; exact rfl; exact ZvC.eq; exact rfl; intro t2)
  repeat first
    | (apply WL.q; exact rfl; exact rfl; exact rfl; (first | (apply EvW.move; exact rfl) | (apply EvW.assign; exact rfl) | (apply EvW.loadAgg; exact rfl; exact AggC.eq; exact SzC.eq; (focus ((repeat (first | exact Take.head | apply Take.tail)); done)); (focus ((repeat (first | exact SubL.nil | apply SubL.cons | apply SubL.succ)); done)))))
    | refine WC.seq ?_ | refine WC.region ?_ | refine WL.nil ?_ | refine WE.next ?_ | (apply WL.store; exact rfl; exact rfl; (first | assumption | exact rfl); exact SzC.eq; (first | assumption | exact rfl); (focus ((repeat (first | apply UpdC.head | apply UpdC.tail | exact SetMany.nil | apply SetMany.cons | apply SetMany.succ)); done)))
  try refine WL.wanted rfl rfl rfl ?_
  apply WL.callA ([])
  · exact rfl
  · exact rfl
  · exact fun w => Try.call20 _ w
  · (focus ((repeat (first | exact TakeL.nil | apply TakeL.cons | exact Take.head | apply Take.tail)); done))
  · exact fun w1 S1 hS1 hs1 ho1 => tro_spec h l e2 zo w1 S1 hS1 (hh.down hs1) hl hro
  rintro _ _ ⟨f, g, j, rfl, rfl⟩
  first | refine WL.app4 ?_ | refine WL.app3 ?_ | refine WL.app2 ?_ | refine WL.app1 ?_ | refine WL.app0 ?_ | skip
  repeat first
    | (apply WL.q; exact rfl; exact rfl; exact rfl; (first | (apply EvW.move; exact rfl) | (apply EvW.extract; exact rfl; exact rfl)))
  (first | refine WL.slOwn (v := f) (by (focus ((repeat (first | exact Take.head | apply Take.tail)); done))) ?_ | refine WC.slOwn (v := f) (by (focus ((repeat (first | exact Take.head | apply Take.tail)); done))) ?_)
  intro hc_f ho_f
  (first | refine WL.slOwn (v := g) (by (focus ((repeat (first | exact Take.head | apply Take.tail)); done))) ?_ | refine WC.slOwn (v := g) (by (focus ((repeat (first | exact Take.head | apply Take.tail)); done))) ?_)
  intro hc_g ho_g
  (first | refine WL.slOwn (v := j) (by (focus ((repeat (first | exact Take.head | apply Take.tail)); done))) ?_ | refine WC.slOwn (v := j) (by (focus ((repeat (first | exact Take.head | apply Take.tail)); done))) ?_)
  intro hc_j ho_j
  have hall3 : ([f, g, j] : List Value).all (·.oneCell') = true := by
    simp at ho_f ho_g ho_j
    simp [ho_f, ho_g, ho_j]
  clear hc_f hc_g hc_j ho_f ho_g ho_j
  skip
  try refine WL.wanted rfl rfl rfl ?_
  (apply WL.alloc; exact rfl; exact ZvC.eq; exact rfl; intro t3)
  repeat first
    | (apply WL.q; exact rfl; exact rfl; exact rfl; (first | (apply EvW.move; exact rfl) | (apply EvW.assign; exact rfl) | (apply EvW.loadAgg; exact rfl; exact AggC.eq; exact SzC.eq; (focus ((repeat (first | exact Take.head | apply Take.tail)); done)); (focus ((repeat (first | exact SubL.nil | apply SubL.cons | apply SubL.succ)); done)))))
    | refine WC.seq ?_ | refine WC.region ?_ | refine WL.nil ?_ | refine WE.next ?_ | (apply WL.store; exact rfl; exact rfl; (first | assumption | exact rfl); exact SzC.eq; (first | assumption | exact rfl); (focus ((repeat (first | apply UpdC.head | apply UpdC.tail | exact SetMany.nil | apply SetMany.cons | apply SetMany.succ)); done)))
  try refine WL.wanted rfl rfl rfl ?_
  apply WL.callA ([])
  · exact rfl
  · exact rfl
  · exact fun w => Try.call21 _ w
  · (focus ((repeat (first | exact TakeL.nil | apply TakeL.cons | exact Take.head | apply Take.tail)); done))
  · exact fun w1 S1 hS1 hs1 ho1 => rro_spec h l e2 zo w1 S1 hS1 (hh.down hs1) hl hro
  rintro _ _ ⟨f', g', j', rfl, rfl⟩
  first | refine WL.app4 ?_ | refine WL.app3 ?_ | refine WL.app2 ?_ | refine WL.app1 ?_ | refine WL.app0 ?_ | skip
  repeat first
    | (apply WL.q; exact rfl; exact rfl; exact rfl; (first | (apply EvW.move; exact rfl) | (apply EvW.extract; exact rfl; exact rfl)))
  (first | refine WL.slOwn (v := f') (by (focus ((repeat (first | exact Take.head | apply Take.tail)); done))) ?_ | refine WC.slOwn (v := f') (by (focus ((repeat (first | exact Take.head | apply Take.tail)); done))) ?_)
  intro hc_f' ho_f'
  (first | refine WL.slOwn (v := g') (by (focus ((repeat (first | exact Take.head | apply Take.tail)); done))) ?_ | refine WC.slOwn (v := g') (by (focus ((repeat (first | exact Take.head | apply Take.tail)); done))) ?_)
  intro hc_g' ho_g'
  (first | refine WL.slOwn (v := j') (by (focus ((repeat (first | exact Take.head | apply Take.tail)); done))) ?_ | refine WC.slOwn (v := j') (by (focus ((repeat (first | exact Take.head | apply Take.tail)); done))) ?_)
  intro hc_j' ho_j'
  have hall4 : ([f', g', j'] : List Value).all (·.oneCell') = true := by
    simp at ho_f' ho_g' ho_j'
    simp [ho_f', ho_g', ho_j']
  clear hc_f' hc_g' hc_j' ho_f' ho_g' ho_j'
  skip
  try refine WL.wanted rfl rfl rfl ?_
  (apply WL.alloc; exact rfl; exact ZvC.eq; exact rfl; intro t4)
  repeat first
    | (apply WL.q; exact rfl; exact rfl; exact rfl; (first | (apply EvW.move; exact rfl) | (apply EvW.assign; exact rfl)))
    | refine WC.seq ?_ | refine WC.region ?_ | refine WL.nil ?_ | refine WE.next ?_ | (apply WL.store; exact rfl; exact rfl; (first | assumption | exact rfl); exact SzC.eq; (first | assumption | exact rfl); (focus ((repeat (first | apply UpdC.head | apply UpdC.tail | exact SetMany.nil | apply SetMany.cons | apply SetMany.succ)); done)))
  try refine WL.wanted rfl rfl rfl ?_
  apply WL.callA ([])
  · exact rfl
  · exact rfl
  · exact fun w => Try.call22 _ w
  · (focus ((repeat (first | exact TakeL.nil | apply TakeL.cons | exact Take.head | apply Take.tail)); done))
  · exact fun w1 S1 hS1 hs1 ho1 => trblock_spec l rr w1 S1 hS1 hl hbr
  rintro _ _ ⟨rfl, rfl⟩
  first | refine WL.app4 ?_ | refine WL.app3 ?_ | refine WL.app2 ?_ | refine WL.app1 ?_ | refine WL.app0 ?_ | skip
  repeat first
    | (apply WL.q; exact rfl; exact rfl; exact rfl; (first | (apply EvW.move; exact rfl) | (apply EvW.extract; exact rfl; exact rfl)))
  try refine WL.wanted rfl rfl rfl ?_
  (apply WL.alloc; exact rfl; exact ZvC.eq; exact rfl; intro t5)
  repeat first
    | (apply WL.q; exact rfl; exact rfl; exact rfl; (first | (apply EvW.move; exact rfl) | (apply EvW.assign; exact rfl)))
    | refine WC.seq ?_ | refine WC.region ?_ | refine WL.nil ?_ | refine WE.next ?_ | (apply WL.store; exact rfl; exact rfl; (first | assumption | exact rfl); exact SzC.eq; (first | assumption | exact rfl); (focus ((repeat (first | apply UpdC.head | apply UpdC.tail | exact SetMany.nil | apply SetMany.cons | apply SetMany.succ)); done)))
  try refine WL.wanted rfl rfl rfl ?_
  apply WL.callA ([])
  · exact rfl
  · exact rfl
  · exact fun w => Try.call23 _ w
  · (focus ((repeat (first | exact TakeL.nil | apply TakeL.cons | exact Take.head | apply Take.tail)); done))
  · exact fun w1 S1 hS1 hs1 ho1 => rrblock_spec l rr w1 S1 hS1 hl hbr
  rintro _ _ ⟨rfl, rfl⟩
  first | refine WL.app4 ?_ | refine WL.app3 ?_ | refine WL.app2 ?_ | refine WL.app1 ?_ | refine WL.app0 ?_ | skip
  repeat first
    | (apply WL.q; exact rfl; exact rfl; exact rfl; (first | (apply EvW.move; exact rfl) | (apply EvW.extract; exact rfl; exact rfl)))
  try refine WL.wanted rfl rfl rfl ?_
  (apply WL.alloc; exact rfl; exact ZvC.eq; exact rfl; intro t6)
  repeat first
    | (apply WL.q; exact rfl; exact rfl; exact rfl; (first | (apply EvW.move; exact rfl) | (apply EvW.assign; exact rfl) | (apply EvW.cmpT; exact rfl; exact rfl; exact rfl; omega) | (apply EvW.pickT; exact rfl; exact rfl) | (apply EvW.loadAgg; exact rfl; exact AggC.eq; exact SzC.eq; (focus ((repeat (first | exact Take.head | apply Take.tail)); done)); (focus ((repeat (first | exact SubL.nil | apply SubL.cons | apply SubL.succ)); done)))))
    | refine WC.seq ?_ | refine WC.region ?_ | refine WL.nil ?_ | refine WE.next ?_ | refine WL.wanted rfl rfl rfl ?_ | (apply WL.store; exact rfl; exact rfl; (first | assumption | exact rfl); exact SzC.eq; (first | assumption | exact rfl); (focus ((repeat (first | apply UpdC.head | apply UpdC.tail | exact SetMany.nil | apply SetMany.cons | apply SetMany.succ)); done)))
  try refine WL.wanted rfl rfl rfl ?_
  (apply WL.q; exact rfl; exact rfl; exact rfl; (apply EvW.eqAggS (offs := [0, 1, 2]); exact rfl; exact rfl; kernel_rfl; exact rfl))
  repeat first
    | (apply WL.q; exact rfl; exact rfl; exact rfl; (first | (apply EvW.move; exact rfl) | (apply EvW.pickT; exact rfl; exact rfl) | (apply EvW.loadAgg; exact rfl; exact AggC.eq; exact SzC.eq; (focus ((repeat (first | exact Take.head | apply Take.tail)); done)); (focus ((repeat (first | exact SubL.nil | apply SubL.cons | apply SubL.succ)); done)))))
    | refine WL.wanted rfl rfl rfl ?_
  try refine WL.wanted rfl rfl rfl ?_
  apply WL.callA ([])
  · exact rfl
  · exact rfl
  · exact fun w => Try.call24 _ w
  · (focus ((repeat (first | exact TakeL.nil | apply TakeL.cons | exact Take.head | apply Take.tail)); done))
  · exact fun w1 S1 hS1 hs1 ho1 => sameStatus_spec ⟨a, b, v, d, zs.1, zs.2.1, zs.2.2.1, zs.2.2.2⟩ ⟨a', b', v', d', zs.1, zs.2.1, zs.2.2.1, zs.2.2.2⟩ w1 S1 hS1 ⟨(ho1 (.own 3 1 (a) (zs.1).length ((zs.1).map i64)) _ (by (focus ((repeat (first | exact Take.head | apply Take.tail)); done)))).own, (ho1 (.own 3 1 (b) (zs.2.1).length ((zs.2.1).map i64)) _ (by (focus ((repeat (first | exact Take.head | apply Take.tail)); done)))).own, (ho1 (.own 3 1 (v) (zs.2.2.1).length ((zs.2.2.1).map i64)) _ (by (focus ((repeat (first | exact Take.head | apply Take.tail)); done)))).own, (ho1 (.own 3 1 (d) (zs.2.2.2).length ((zs.2.2.2).map i64)) _ (by (focus ((repeat (first | exact Take.head | apply Take.tail)); done)))).own, ks.1, ks.2.1, ks.2.2.1, ks.2.2.2⟩ ⟨(ho1 (.own 3 1 (a') (zs.1).length ((zs.1).map i64)) _ (by (focus ((repeat (first | exact Take.head | apply Take.tail)); done)))).own, (ho1 (.own 3 1 (b') (zs.2.1).length ((zs.2.1).map i64)) _ (by (focus ((repeat (first | exact Take.head | apply Take.tail)); done)))).own, (ho1 (.own 3 1 (v') (zs.2.2.1).length ((zs.2.2.1).map i64)) _ (by (focus ((repeat (first | exact Take.head | apply Take.tail)); done)))).own, (ho1 (.own 3 1 (d') (zs.2.2.2).length ((zs.2.2.2).map i64)) _ (by (focus ((repeat (first | exact Take.head | apply Take.tail)); done)))).own, ks.1, ks.2.1, ks.2.2.1, ks.2.2.2⟩ rfl rfl rfl rfl
  rintro _ _ ⟨rfl, rfl⟩
  first | refine WL.app4 ?_ | refine WL.app3 ?_ | refine WL.app2 ?_ | refine WL.app1 ?_ | refine WL.app0 ?_ | skip
  repeat first
    | (apply WL.q; exact rfl; exact rfl; exact rfl; (first | (apply EvW.move; exact rfl) | (apply EvW.pickT; exact rfl; exact rfl) | (apply EvW.loadAgg; exact rfl; exact AggC.eq; exact SzC.eq; (focus ((repeat (first | exact Take.head | apply Take.tail)); done)); (focus ((repeat (first | exact SubL.nil | apply SubL.cons | apply SubL.succ)); done)))))
    | refine WL.wanted rfl rfl rfl ?_
  try refine WL.wanted rfl rfl rfl ?_
  apply WL.callA ([])
  · exact rfl
  · exact rfl
  · exact fun w => Try.call25 _ w
  · (focus ((repeat (first | exact TakeL.nil | apply TakeL.cons | exact Take.head | apply Take.tail)); done))
  · exact fun w1 S1 hS1 hs1 ho1 => sameOrders_spec ⟨f, g, j, zo.1, zo.2.1, zo.2.2⟩ ⟨f', g', j', zo.1, zo.2.1, zo.2.2⟩ w1 S1 hS1 ⟨(ho1 (.own 3 1 (f) (zo.1).length ((zo.1).map i64)) _ (by (focus ((repeat (first | exact Take.head | apply Take.tail)); done)))).own, (ho1 (.own 3 1 (g) (zo.2.1).length ((zo.2.1).map i64)) _ (by (focus ((repeat (first | exact Take.head | apply Take.tail)); done)))).own, (ho1 (.own 3 1 (j) (zo.2.2).length ((zo.2.2).map i64)) _ (by (focus ((repeat (first | exact Take.head | apply Take.tail)); done)))).own, ko.1, ko.2.1, ko.2.2⟩ ⟨(ho1 (.own 3 1 (f') (zo.1).length ((zo.1).map i64)) _ (by (focus ((repeat (first | exact Take.head | apply Take.tail)); done)))).own, (ho1 (.own 3 1 (g') (zo.2.1).length ((zo.2.1).map i64)) _ (by (focus ((repeat (first | exact Take.head | apply Take.tail)); done)))).own, (ho1 (.own 3 1 (j') (zo.2.2).length ((zo.2.2).map i64)) _ (by (focus ((repeat (first | exact Take.head | apply Take.tail)); done)))).own, ko.1, ko.2.1, ko.2.2⟩ rfl rfl rfl
  rintro _ _ ⟨rfl, rfl⟩
  first | refine WL.app4 ?_ | refine WL.app3 ?_ | refine WL.app2 ?_ | refine WL.app1 ?_ | refine WL.app0 ?_ | skip
  repeat first
    | (apply WL.q; exact rfl; exact rfl; exact rfl; (first | (apply EvW.assign; exact rfl) | (apply EvW.pickT; exact rfl; exact rfl)))
    | refine WL.nil ?_ | refine WE.next ?_ | refine WC.ret ?_
  refine WE.bare ?_
  refine WE.ret1 rfl rfl ?_
  rfl
end Go.Proofs.Ytdnpofigagdabaa
