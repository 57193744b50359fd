/- Blocks and their payloads; the example. -/
import Derived.Test.YtdnpofigagdabaaTeleH
import Derived.Test.YtdnpofigagdabaaPackN
import Derived.Test.YtdnpofigagdabaaPackJ
import Derived.Test.YtdnpofigagdabaaPackK
import Derived.Test.YtdnpofigagdabaaPackQ
namespace Go.Proofs.Ytdnpofigagdabaa
open Go.RowKit Go.BK

def bM (x y z : Int) : PW := [x, y, z].foldl (PW.num 4) ([3].foldl (PW.num 1) (PW.init 13))
def rk (l : List UInt8) : Int × PR := (PR.mk 0 l).num 1
def ra (l : List UInt8) : Int × PR := (rk l).2.num 4
def rb (l : List UInt8) : Int × PR := (ra l).2.num 4
def rc (l : List UInt8) : Int × PR := (rb l).2.num 4
def bGood (l : List UInt8) : Prop := (rk l).1 = 3 ∧ (rc l).2.fin = 0
theorem rk_s (l : List UInt8) : (rk l).2.s.length ≤ l.length ∧ ((rk l).2.e = 0 ∨ (rk l).2.e = 1) := ⟨PR.take_s _ _ _, PR.take_e _ _ _ (.inl rfl)⟩
theorem ra_s (l : List UInt8) : (ra l).2.s.length ≤ l.length ∧ ((ra l).2.e = 0 ∨ (ra l).2.e = 1) := ⟨Nat.le_trans (PR.take_s _ _ _) (rk_s l).1, PR.take_e _ _ _ (rk_s l).2⟩
theorem rb_s (l : List UInt8) : (rb l).2.s.length ≤ l.length ∧ ((rb l).2.e = 0 ∨ (rb l).2.e = 1) := ⟨Nat.le_trans (PR.take_s _ _ _) (ra_s l).1, PR.take_e _ _ _ (ra_s l).2⟩
theorem rc_s (l : List UInt8) : (rc l).2.s.length ≤ l.length ∧ ((rc l).2.e = 0 ∨ (rc l).2.e = 1) := ⟨Nat.le_trans (PR.take_s _ _ _) (rb_s l).1, PR.take_e _ _ _ (rb_s l).2⟩
theorem bfits (r : Nat) : (PW.init 13).fits r := ⟨by decide, by decide, .inl ⟨by decide, by decide⟩⟩
theorem tblock_spec (x y z : Int) (w : World) (S : BSet) (hS : (sepL []).sat S w)  :
    Tri Try.prog 16 #[.agg #[i64 x, i64 y, i64 z]] w S fun u A => u = .tuple #[str (bM x y z).said, i64 (bM x y z).e] ∧ A = [] := by
  refine Tri.enter (l := [.agg #[i64 x, i64 y, i64 z]]) Try.func16 rfl Try.ntmps16 rfl [(0, .agg #[i64 x, i64 y, i64 z])] (subA rfl) hS ?_
  repeat first
    | refine WC.seq ?_ | refine WC.region ?_
  try refine WL.wanted rfl rfl rfl ?_
  (apply WL.box; exact rfl; exact rfl; exact rfl; intro q1)
  repeat first
    | (apply WL.q; exact rfl; exact rfl; exact rfl; (first | (apply EvW.assign; exact rfl)))
    | refine WC.seq ?_ | refine WC.region ?_ | refine WL.nil ?_ | refine WE.next ?_
  try refine WL.wanted rfl rfl rfl ?_
  apply WL.callT
  · exact rfl
  · exact rfl
  · exact fun w1 S1 hS1 hs1 ho1 => new_spec 13 w1 S1 hS1
  · exact fun w => Try.call34 _ w
  · (focus ((repeat (first | exact TakeL.nil | apply TakeL.cons | exact Take.head | apply Take.tail)); done))
  rintro _ _ ⟨b, rfl, rfl⟩
  first | refine WL.app4 ?_ | refine WL.app3 ?_ | refine WL.app2 ?_ | refine WL.app1 ?_ | refine WL.app0 ?_ | skip
  repeat first
    | (apply WL.q; exact rfl; exact rfl; exact rfl; (first | (apply EvW.move; exact rfl) | (apply EvW.assign; exact rfl)))
    | refine WC.seq ?_ | refine WC.region ?_ | refine WL.nil ?_ | refine WE.next ?_
  try refine WL.wanted rfl rfl rfl ?_
  (apply WL.buildSlice; exact rfl; exact UndC.eq; exact SzC.eq; exact ZvC.eq; exact rfl; exact rfl; exact rfl; ((focus ((repeat (first | exact Flat.nil | (apply Flat.one; (first | exact rfl | assumption)) | (apply Flat.cons; exact rfl; exact rfl))); done))); exact rfl; exact rfl; intro c1)
  try refine WL.wanted rfl rfl rfl ?_
  apply WL.callA ([.own 5 1 (Value.slice none 0 0) (PW.init 13).out.length ((PW.init 13).out.map byt), .blk b #[i64 (PW.init 13).e, Value.slice none 0 0, i64 (PW.init 13).lim] 102])
  · exact rfl
  · exact rfl
  · exact fun w => Try.call35 _ w
  · (focus ((repeat (first | exact TakeL.nil | apply TakeL.cons | exact Take.head | apply Take.tail)); done))
  · exact fun w1 S1 hS1 hs1 ho1 => byte_spec b _ _ (PW.init 13) [3] w1 S1 hS1 ((ho1 _ _ .head).blkRow rfl (fun k u h => by simpa using h) (by decide)) (bfits _) (by decide)
  rintro _ _ ⟨rfl, v1, rfl⟩
  first | refine WL.app4 ?_ | refine WL.app3 ?_ | refine WL.app2 ?_ | refine WL.app1 ?_ | refine WL.app0 ?_ | skip
  repeat first
    | (apply WL.q; exact rfl; exact rfl; exact rfl; (first | (apply EvW.move; exact rfl) | (apply EvW.fieldAddr0; exact rfl; exact FldC.eq) | (apply EvW.load; exact rfl; exact ScalC.eq; (focus ((repeat (first | exact Take.head | apply Take.tail)); done)); exact rfl)))
    | refine WC.seq ?_ | refine WC.region ?_ | refine WL.nil ?_ | refine WE.next ?_
  try refine WL.wanted rfl rfl rfl ?_
  (apply WL.buildSlice; exact rfl; exact UndC.eq; exact SzC.eq; exact ZvC.eq; exact rfl; exact rfl; exact rfl; ((focus ((repeat (first | exact Flat.nil | (apply Flat.one; (first | exact rfl | assumption)) | (apply Flat.cons; exact rfl; exact rfl))); done))); exact rfl; exact rfl; intro c2)
  try refine WL.wanted rfl rfl rfl ?_
  apply WL.callA ([.own 5 1 (v1) ([3].foldl (PW.num 1) (PW.init 13)).out.length (([3].foldl (PW.num 1) (PW.init 13)).out.map byt), .blk b #[i64 ([3].foldl (PW.num 1) (PW.init 13)).e, v1, i64 ([3].foldl (PW.num 1) (PW.init 13)).lim] 102])
  · exact rfl
  · exact rfl
  · exact fun w => Try.call36 _ w
  · (focus ((repeat (first | exact TakeL.nil | apply TakeL.cons | exact Take.head | apply Take.tail)); done))
  · exact fun w1 S1 hS1 hs1 ho1 => long_spec b _ _ ([3].foldl (PW.num 1) (PW.init 13)) [x, y, z] w1 S1 hS1 ((ho1 _ _ .head).blkRow rfl (fun k u h => by simpa using h) (by simp)) (fits_num 1 _ 3 bfits _) (by simp)
  rintro _ _ ⟨rfl, v2, rfl⟩
  first | refine WL.app4 ?_ | refine WL.app3 ?_ | refine WL.app2 ?_ | refine WL.app1 ?_ | refine WL.app0 ?_ | skip
  repeat first
    | (apply WL.q; exact rfl; exact rfl; exact rfl; (first | (apply EvW.move; exact rfl)))
    | refine WC.seq ?_ | refine WC.region ?_ | refine WL.nil ?_ | refine WE.next ?_
  try refine WL.wanted rfl rfl rfl ?_
  apply WL.callA ([.own 5 1 (v2) (bM x y z).out.length ((bM x y z).out.map byt), .blk b #[i64 (bM x y z).e, v2, i64 (bM x y z).lim] 102])
  · exact rfl
  · exact rfl
  · exact fun w => Try.call37 _ w
  · (focus ((repeat (first | exact TakeL.nil | apply TakeL.cons | exact Take.head | apply Take.tail)); done))
  · exact fun w1 S1 hS1 hs1 ho1 => done_spec b v2 (bM x y z) w1 S1 hS1
  rintro _ _ ⟨rfl, rfl⟩
  first | refine WL.app4 ?_ | refine WL.app3 ?_ | refine WL.app2 ?_ | refine WL.app1 ?_ | refine WL.app0 ?_ | skip
  repeat first
    | (apply WL.q; exact rfl; exact rfl; exact rfl; (first | (apply EvW.assign; exact rfl) | (apply EvW.extract; exact rfl; exact rfl)))
    | refine WL.nil ?_ | refine WE.next ?_ | refine WC.ret ?_
  refine WE.bare ?_
  refine WE.retN (l := [2, 3]) rfl rfl rfl ?_
  exact ⟨rfl, rfl⟩
theorem rblock_spec (x y z : Int) (w : World) (S : BSet) (hS : (sepL []).sat S w) (hx : x ≤ 9223372036854775807) (hy : y ≤ 9223372036854775807) (hz : z ≤ 9223372036854775807) :
    Tri Try.prog 17 #[.agg #[i64 x, i64 y, i64 z]] w S fun u A => u = .tuple #[str (bM x y z).said, i64 (bM x y z).e] ∧ A = [] := by
  refine Tri.enter (l := [.agg #[i64 x, i64 y, i64 z]]) Try.func17 rfl Try.ntmps17 rfl [(0, .agg #[i64 x, i64 y, i64 z])] (subA rfl) hS ?_
  have f0 := bfits
  have f1 := fits_num 1 (PW.init 13) 3 f0
  have f2 := fits_num 4 _ x f1
  have f3 := fits_num 4 _ y f2
  have hM : PW.num 4 (PW.num 4 (PW.num 4 (PW.num 1 (PW.init 13) 3) x) y) z = bM x y z := rfl
  repeat first
    | refine WC.seq ?_ | refine WC.region ?_
  try refine WL.wanted rfl rfl rfl ?_
  (apply WL.box; exact rfl; exact rfl; exact rfl; intro q1)
  repeat first
    | (apply WL.q; exact rfl; exact rfl; exact rfl; (first | (apply EvW.assign; exact rfl)))
    | refine WC.seq ?_ | refine WC.region ?_ | refine WL.nil ?_ | refine WE.next ?_
  try refine WL.wanted rfl rfl rfl ?_
  apply WL.callT
  · exact rfl
  · exact rfl
  · exact fun w1 S1 hS1 hs1 ho1 => rnew_spec 13 w1 S1 hS1
  · exact fun w => Try.call38 _ w
  · (focus ((repeat (first | exact TakeL.nil | apply TakeL.cons | exact Take.head | apply Take.tail)); done))
  rintro _ _ ⟨b, rfl, rfl⟩
  first | refine WL.app4 ?_ | refine WL.app3 ?_ | refine WL.app2 ?_ | refine WL.app1 ?_ | refine WL.app0 ?_ | skip
  repeat first
    | (apply WL.q; exact rfl; exact rfl; exact rfl; (first | (apply EvW.move; exact rfl) | (apply EvW.assign; exact rfl)))
    | refine WC.seq ?_ | refine WC.region ?_ | refine WL.nil ?_ | refine WE.next ?_
  try refine WL.wanted rfl rfl rfl ?_
  apply WL.callT
  · exact rfl
  · exact rfl
  · exact fun w1 S1 hS1 hs1 ho1 => rnumw_spec b (Value.slice none 0 0) (PW.init 13) 3 1 (by decide) (by decide) w1 S1 hS1 (f0 _) (by decide)
  · exact fun w => Try.call39 _ w
  · (focus ((repeat (first | exact TakeL.nil | apply TakeL.cons | exact Take.head | apply Take.tail)); done))
  rintro _ _ ⟨rfl, v1, rfl⟩
  first | refine WL.app4 ?_ | refine WL.app3 ?_ | refine WL.app2 ?_ | refine WL.app1 ?_ | refine WL.app0 ?_ | skip
  generalize PW.num 1 (PW.init 13) 3 = M1 at f1 f2 f3 hM
  repeat first
    | (apply WL.q; exact rfl; exact rfl; exact rfl; (first | (apply EvW.move; exact rfl) | (apply EvW.fieldAddr0; exact rfl; exact FldC.eq) | (apply EvW.load; exact rfl; exact ScalC.eq; (focus ((repeat (first | exact Take.head | apply Take.tail)); done)); exact rfl)))
    | refine WC.seq ?_ | refine WC.region ?_ | refine WL.nil ?_ | refine WE.next ?_
  try refine WL.wanted rfl rfl rfl ?_
  apply WL.callT
  · exact rfl
  · exact rfl
  · exact fun w1 S1 hS1 hs1 ho1 => rnumw_spec b v1 M1 x 4 (by decide) (by decide) w1 S1 hS1 (f1 _) hx
  · exact fun w => Try.call39 _ w
  · (focus ((repeat (first | exact TakeL.nil | apply TakeL.cons | exact Take.head | apply Take.tail)); done))
  rintro _ _ ⟨rfl, v2, rfl⟩
  first | refine WL.app4 ?_ | refine WL.app3 ?_ | refine WL.app2 ?_ | refine WL.app1 ?_ | refine WL.app0 ?_ | skip
  generalize PW.num 4 M1 x = M2 at f2 f3 hM
  repeat first
    | (apply WL.q; exact rfl; exact rfl; exact rfl; (first | (apply EvW.move; exact rfl) | (apply EvW.fieldAddr0; exact rfl; exact FldC.eq) | (apply EvW.load; exact rfl; exact ScalC.eq; (focus ((repeat (first | exact Take.head | apply Take.tail)); done)); exact rfl)))
    | refine WC.seq ?_ | refine WC.region ?_ | refine WL.nil ?_ | refine WE.next ?_
  try refine WL.wanted rfl rfl rfl ?_
  apply WL.callT
  · exact rfl
  · exact rfl
  · exact fun w1 S1 hS1 hs1 ho1 => rnumw_spec b v2 M2 y 4 (by decide) (by decide) w1 S1 hS1 (f2 _) hy
  · exact fun w => Try.call39 _ w
  · (focus ((repeat (first | exact TakeL.nil | apply TakeL.cons | exact Take.head | apply Take.tail)); done))
  rintro _ _ ⟨rfl, v3, rfl⟩
  first | refine WL.app4 ?_ | refine WL.app3 ?_ | refine WL.app2 ?_ | refine WL.app1 ?_ | refine WL.app0 ?_ | skip
  generalize PW.num 4 M2 y = M3 at f3 hM
  repeat first
    | (apply WL.q; exact rfl; exact rfl; exact rfl; (first | (apply EvW.move; exact rfl) | (apply EvW.fieldAddr0; exact rfl; exact FldC.eq) | (apply EvW.load; exact rfl; exact ScalC.eq; (focus ((repeat (first | exact Take.head | apply Take.tail)); done)); exact rfl)))
    | refine WC.seq ?_ | refine WC.region ?_ | refine WL.nil ?_ | refine WE.next ?_
  try refine WL.wanted rfl rfl rfl ?_
  apply WL.callT
  · exact rfl
  · exact rfl
  · exact fun w1 S1 hS1 hs1 ho1 => rnumw_spec b v3 M3 z 4 (by decide) (by decide) w1 S1 hS1 (f3 _) hz
  · exact fun w => Try.call39 _ w
  · (focus ((repeat (first | exact TakeL.nil | apply TakeL.cons | exact Take.head | apply Take.tail)); done))
  rintro _ _ ⟨rfl, v4, rfl⟩
  first | refine WL.app4 ?_ | refine WL.app3 ?_ | refine WL.app2 ?_ | refine WL.app1 ?_ | refine WL.app0 ?_ | skip
  rw [hM]
  repeat first
    | (apply WL.q; exact rfl; exact rfl; exact rfl; (first | (apply EvW.move; exact rfl)))
    | refine WC.seq ?_ | refine WC.region ?_ | refine WL.nil ?_ | refine WE.next ?_
  try refine WL.wanted rfl rfl rfl ?_
  apply WL.callT
  · exact rfl
  · exact rfl
  · exact fun w1 S1 hS1 hs1 ho1 => rdone_spec b v4 (bM x y z) w1 S1 hS1
  · exact fun w => Try.call40 _ w
  · (focus ((repeat (first | exact TakeL.nil | apply TakeL.cons | exact Take.head | apply Take.tail)); done))
  rintro _ _ ⟨rfl, rfl⟩
  first | refine WL.app4 ?_ | refine WL.app3 ?_ | refine WL.app2 ?_ | refine WL.app1 ?_ | refine WL.app0 ?_ | skip
  repeat first
    | (apply WL.q; exact rfl; exact rfl; exact rfl; (first | (apply EvW.move; exact rfl) | (apply EvW.assign; exact rfl) | (apply EvW.extract; exact rfl; exact rfl)))
    | refine WC.seq ?_ | refine WC.region ?_ | refine WL.nil ?_ | refine WE.next ?_ | refine WC.ret ?_
  refine WE.bare ?_
  refine WE.retN (l := [2, 3]) rfl rfl rfl ?_
  exact ⟨rfl, rfl⟩
theorem trblock_spec (l : List UInt8) (r3 : Int × Int × Int × Int) (w : World) (S : BSet) (hS : (sepL []).sat S w) (hl : l.length ≤ 140737488355328) (hr : (bGood l ∧ r3 = ((ra l).1, (rb l).1, (rc l).1, 0)) ∨ (¬ bGood l ∧ r3 = (0, 0, 0, 3))) :
    Tri Try.prog 22 #[str l] w S fun u A => u = .tuple #[.agg #[i64 r3.1, i64 r3.2.1, i64 r3.2.2.1], i64 r3.2.2.2] ∧ A = [] := by
  refine Tri.enter (l := [str l]) Try.func22 rfl Try.ntmps22 rfl [(0, str l)] (subA rfl) hS ?_
  have hk := rk_s l
  have ha := ra_s l
  have hb := rb_s l
  have hc := rc_s l
  repeat first
    | refine WC.seq ?_ | refine WC.region ?_
  try refine WL.wanted rfl rfl rfl ?_
  (apply WL.alloc; exact rfl; exact ZvC.eq; exact rfl; intro r)
  repeat first
    | (apply WL.q; exact rfl; exact rfl; exact rfl; (first | (apply EvW.move; exact rfl) | (apply EvW.assign; exact rfl)))
    | refine WC.seq ?_ | refine WC.region ?_ | refine WL.nil ?_ | refine WE.next ?_
  try refine WL.wanted rfl rfl rfl ?_
  apply WL.callT
  · exact rfl
  · exact rfl
  · exact fun w1 S1 hS1 hs1 ho1 => read_spec l w1 S1 hS1
  · exact fun w => Try.call43 _ w
  · (focus ((repeat (first | exact TakeL.nil | apply TakeL.cons | exact Take.head | apply Take.tail)); done))
  rintro _ _ ⟨b, rfl, rfl⟩
  first | refine WL.app4 ?_ | refine WL.app3 ?_ | refine WL.app2 ?_ | refine WL.app1 ?_ | refine WL.app0 ?_ | skip
  repeat first
    | (apply WL.q; exact rfl; exact rfl; exact rfl; (first | (apply EvW.move; exact rfl) | (apply EvW.assign; exact rfl)))
    | refine WC.seq ?_ | refine WC.region ?_ | refine WL.nil ?_ | refine WE.next ?_
  try refine WL.wanted rfl rfl rfl ?_
  apply WL.callT
  · exact rfl
  · exact rfl
  · exact fun w1 S1 hS1 hs1 ho1 => rbyte_spec b (PR.mk 0 l) w1 S1 hS1 (by simp; omega)
  · exact fun w => Try.call44 _ w
  · (focus ((repeat (first | exact TakeL.nil | apply TakeL.cons | exact Take.head | apply Take.tail)); done))
  rintro _ _ ⟨rfl, rfl⟩
  first | refine WL.app4 ?_ | refine WL.app3 ?_ | refine WL.app2 ?_ | refine WL.app1 ?_ | refine WL.app0 ?_ | skip
  rw [show (PR.mk 0 l).num 1 = rk l from rfl]
  repeat first
    | (apply WL.q; exact rfl; exact rfl; exact rfl; (first | (apply EvW.move; exact rfl) | (apply EvW.assign; exact rfl)))
    | refine WC.seq ?_ | refine WC.region ?_ | refine WL.nil ?_ | refine WE.next ?_
  try refine WL.wanted rfl rfl rfl ?_
  apply WL.callA ([.blk b #[i64 ((rk l).2).e, str ((rk l).2).s] 108])
  · exact rfl
  · exact rfl
  · exact fun w => Try.call45 _ w
  · (focus ((repeat (first | exact TakeL.nil | apply TakeL.cons | exact Take.head | apply Take.tail)); done))
  · exact fun w1 S1 hS1 hs1 ho1 => rlong_spec b (rk l).2 w1 S1 hS1 (by omega)
  rintro _ _ ⟨rfl, rfl⟩
  first | refine WL.app4 ?_ | refine WL.app3 ?_ | refine WL.app2 ?_ | refine WL.app1 ?_ | refine WL.app0 ?_ | skip
  rw [show (rk l).2.num 4 = ra l from rfl]
  repeat first
    | (apply WL.q; exact rfl; exact rfl; exact rfl; (first | (apply EvW.move; exact rfl)))
  try refine WL.wanted rfl rfl rfl ?_
  apply WL.callA ([.blk b #[i64 ((ra l).2).e, str ((ra l).2).s] 108])
  · exact rfl
  · exact rfl
  · exact fun w => Try.call45 _ w
  · (focus ((repeat (first | exact TakeL.nil | apply TakeL.cons | exact Take.head | apply Take.tail)); done))
  · exact fun w1 S1 hS1 hs1 ho1 => rlong_spec b (ra l).2 w1 S1 hS1 (by omega)
  rintro _ _ ⟨rfl, rfl⟩
  first | refine WL.app4 ?_ | refine WL.app3 ?_ | refine WL.app2 ?_ | refine WL.app1 ?_ | refine WL.app0 ?_ | skip
  rw [show (ra l).2.num 4 = rb l from rfl]
  repeat first
    | (apply WL.q; exact rfl; exact rfl; exact rfl; (first | (apply EvW.move; exact rfl)))
  try refine WL.wanted rfl rfl rfl ?_
  apply WL.callA ([.blk b #[i64 ((rb l).2).e, str ((rb l).2).s] 108])
  · exact rfl
  · exact rfl
  · exact fun w => Try.call45 _ w
  · (focus ((repeat (first | exact TakeL.nil | apply TakeL.cons | exact Take.head | apply Take.tail)); done))
  · exact fun w1 S1 hS1 hs1 ho1 => rlong_spec b (rb l).2 w1 S1 hS1 (by omega)
  rintro _ _ ⟨rfl, rfl⟩
  first | refine WL.app4 ?_ | refine WL.app3 ?_ | refine WL.app2 ?_ | refine WL.app1 ?_ | refine WL.app0 ?_ | skip
  rw [show (rb l).2.num 4 = rc l from rfl]
  repeat first
    | (apply WL.q; exact rfl; exact rfl; exact rfl; (first | (apply EvW.build; exact PlC.eq; exact ZvC.eq; exact rfl; exact rfl; (focus ((repeat (first | exact Fills.nil | (apply Fills.cons; exact rfl; (first | assumption | exact rfl); exact rfl) | exact SetMany.nil | apply SetMany.cons | apply SetMany.succ)); done)))))
  try refine WL.wanted rfl rfl rfl ?_
  (apply WL.alloc; exact rfl; exact ZvC.eq; exact rfl; intro x)
  by_cases h3 : (rk l).1 = 3
  · repeat first
      | (apply WL.q; exact rfl; exact rfl; exact rfl; (first | (apply EvW.move; exact rfl) | (apply EvW.cmpF; exact rfl; exact rfl; exact rfl; omega)))
      | refine WC.seq ?_ | refine WC.region ?_ | refine WL.nil ?_ | refine WE.next ?_ | refine WL.wanted rfl rfl rfl ?_ | (apply WL.store; exact rfl; exact rfl; (first | assumption | exact rfl); exact SzC.eq; (first | assumption | exact rfl); (focus ((repeat (first | apply UpdC.head | apply UpdC.tail | exact SetMany.nil | apply SetMany.cons | apply SetMany.succ)); done)))
    try refine WL.wanted rfl rfl rfl ?_
    apply WL.callA ([.blk b #[i64 ((rc l).2).e, str ((rc l).2).s] 108])
    · exact rfl
    · exact rfl
    · exact fun w => Try.call46 _ w
    · (focus ((repeat (first | exact TakeL.nil | apply TakeL.cons | exact Take.head | apply Take.tail)); done))
    · exact fun w1 S1 hS1 hs1 ho1 => rend_spec b (rc l).2 w1 S1 hS1
    rintro _ _ ⟨rfl, rfl⟩
    first | refine WL.app4 ?_ | refine WL.app3 ?_ | refine WL.app2 ?_ | refine WL.app1 ?_ | refine WL.app0 ?_ | skip
    by_cases h0 : (rc l).2.fin = 0
    · obtain rfl := (hr.resolve_right fun h => h.1 ⟨h3, h0⟩).2
      repeat first
        | (apply WL.q; exact rfl; exact rfl; exact rfl; (first | (apply EvW.assign; exact rfl) | (apply EvW.cmpF; exact rfl; exact rfl; exact rfl; omega) | (apply EvW.pickF; exact rfl; exact rfl) | (apply EvW.loadAgg; exact rfl; exact AggC.eq; exact SzC.eq; (focus ((repeat (first | exact Take.head | apply Take.tail)); done)); (focus ((repeat (first | exact SubL.nil | apply SubL.cons | apply SubL.succ)); done)))))
        | refine WC.seq ?_ | refine WC.region ?_ | refine WL.nil ?_ | refine WE.next ?_ | refine WC.skip ?_ | refine WC.condF rfl ?_ | refine WC.ret ?_ | refine WL.wanted rfl rfl rfl ?_ | (apply WL.store; exact rfl; exact rfl; (first | assumption | exact rfl); exact SzC.eq; (first | assumption | exact rfl); (focus ((repeat (first | apply UpdC.head | apply UpdC.tail | exact SetMany.nil | apply SetMany.cons | apply SetMany.succ)); done)))
      (apply WE.retC2 (A' := []); exact rfl; exact rfl; exact rfl; (focus ((repeat (first | exact Take.head | apply Take.tail)); done)); exact AggC.eq; exact SzC.eq; exact fun _ h => h.keep (by (focus ((repeat (first | exact TakeL.nil | apply TakeL.cons | exact Take.head | apply Take.tail)); done))))
      exact ⟨rfl, rfl⟩
    · obtain rfl := (hr.resolve_left fun h => h0 h.1.2).2
      repeat first
        | (apply WL.q; exact rfl; exact rfl; exact rfl; (first | (apply EvW.assign; exact rfl) | (apply EvW.cmpT; exact rfl; exact rfl; exact rfl; omega) | (apply EvW.pickF; exact rfl; exact rfl) | (apply EvW.build; exact PlC.eq; exact ZvC.eq; exact rfl; exact rfl; (focus ((repeat (first | exact Fills.nil | (apply Fills.cons; exact rfl; (first | assumption | exact rfl); exact rfl) | exact SetMany.nil | apply SetMany.cons | apply SetMany.succ)); done)))))
        | refine WC.seq ?_ | refine WC.region ?_ | refine WL.nil ?_ | refine WE.next ?_ | refine WC.condT rfl ?_ | refine WC.ret ?_ | refine WE.passRet ?_ | refine WL.wanted rfl rfl rfl ?_ | (apply WL.store; exact rfl; exact rfl; (first | assumption | exact rfl); exact SzC.eq; (first | assumption | exact rfl); (focus ((repeat (first | apply UpdC.head | apply UpdC.tail | exact SetMany.nil | apply SetMany.cons | apply SetMany.succ)); done)))
      (apply WE.retC2 (A' := []); exact rfl; exact rfl; exact rfl; (focus ((repeat (first | exact Take.head | apply Take.tail)); done)); exact AggC.eq; exact SzC.eq; exact fun _ h => h.keep (by (focus ((repeat (first | exact TakeL.nil | apply TakeL.cons | exact Take.head | apply Take.tail)); done))))
      exact ⟨rfl, rfl⟩
  · obtain rfl := (hr.resolve_left fun h => h3 h.1.1).2
    repeat first
      | (apply WL.q; exact rfl; exact rfl; exact rfl; (first | (apply EvW.move; exact rfl) | (apply EvW.assign; exact rfl) | (apply EvW.cmpT; exact rfl; exact rfl; exact rfl; omega) | (apply EvW.pickT; exact rfl; exact rfl) | (apply EvW.build; exact PlC.eq; exact ZvC.eq; exact rfl; exact rfl; (focus ((repeat (first | exact Fills.nil | (apply Fills.cons; exact rfl; (first | assumption | exact rfl); exact rfl) | exact SetMany.nil | apply SetMany.cons | apply SetMany.succ)); done)))))
      | refine WC.seq ?_ | refine WC.region ?_ | refine WL.nil ?_ | refine WE.next ?_ | refine WC.condT rfl ?_ | refine WC.ret ?_ | refine WE.passRet ?_ | refine WL.unwanted rfl rfl rfl rfl ?_ | (apply WL.store; exact rfl; exact rfl; (first | assumption | exact rfl); exact SzC.eq; (first | assumption | exact rfl); (focus ((repeat (first | apply UpdC.head | apply UpdC.tail | exact SetMany.nil | apply SetMany.cons | apply SetMany.succ)); done)))
    (apply WE.retC2 (A' := []); exact rfl; exact rfl; exact rfl; (focus ((repeat (first | exact Take.head | apply Take.tail)); done)); exact AggC.eq; exact SzC.eq; exact fun _ h => h.keep (by (focus ((repeat (first | exact TakeL.nil | apply TakeL.cons | exact Take.head | apply Take.tail)); done))))
    exact ⟨rfl, rfl⟩
theorem rrblock_spec (l : List UInt8) (r3 : Int × Int × Int × Int) (w : World) (S : BSet) (hS : (sepL []).sat S w) (hl : l.length ≤ 140737488355328) (hr : (bGood l ∧ r3 = ((ra l).1, (rb l).1, (rc l).1, 0)) ∨ (¬ bGood l ∧ r3 = (0, 0, 0, 3))) :
    Tri Try.prog 23 #[str l] w S fun u A => u = .tuple #[.agg #[i64 r3.1, i64 r3.2.1, i64 r3.2.2.1], i64 r3.2.2.2] ∧ A = [] := by
  refine Tri.enter (l := [str l]) Try.func23 rfl Try.ntmps23 rfl [(0, str l)] (subA rfl) hS ?_
  have hk := rk_s l
  have ha := ra_s l
  have hb := rb_s l
  have hc := rc_s l
  repeat first
    | refine WC.seq ?_ | refine WC.region ?_
  try refine WL.wanted rfl rfl rfl ?_
  (apply WL.alloc; exact rfl; exact ZvC.eq; exact rfl; intro r)
  repeat first
    | (apply WL.q; exact rfl; exact rfl; exact rfl; (first | (apply EvW.move; exact rfl) | (apply EvW.assign; exact rfl) | (apply EvW.build; exact PlC.eq; exact ZvC.eq; exact rfl; exact rfl; (focus ((repeat (first | exact Fills.nil | (apply Fills.cons; exact rfl; (first | assumption | exact rfl); exact rfl) | exact SetMany.nil | apply SetMany.cons | apply SetMany.succ)); done)))))
    | refine WC.seq ?_ | refine WC.region ?_ | refine WL.nil ?_ | refine WE.next ?_
  try refine WL.wanted rfl rfl rfl ?_
  (apply WL.box; exact rfl; exact rfl; exact rfl; intro b)
  repeat first
    | (apply WL.q; exact rfl; exact rfl; exact rfl; (first | (apply EvW.move; exact rfl) | (apply EvW.assign; exact rfl)))
    | refine WC.seq ?_ | refine WC.region ?_ | refine WL.nil ?_ | refine WE.next ?_
  try refine WL.wanted rfl rfl rfl ?_
  apply WL.callA ([.blk b #[str (PR.mk 0 l).s, .bool (decide ((PR.mk 0 l).e ≠ 0))] 92])
  · exact rfl
  · exact rfl
  · exact fun w => Try.call47 _ w
  · (focus ((repeat (first | exact TakeL.nil | apply TakeL.cons | exact Take.head | apply Take.tail)); done))
  · exact fun w1 S1 hS1 hs1 ho1 => rrnum_spec b (PR.mk 0 l) 1 (by decide) (.inl rfl) w1 S1 hS1 (by simp; omega)
  rintro _ _ ⟨rfl, rfl⟩
  first | refine WL.app4 ?_ | refine WL.app3 ?_ | refine WL.app2 ?_ | refine WL.app1 ?_ | refine WL.app0 ?_ | skip
  rw [show (PR.mk 0 l).num 1 = rk l from rfl]
  repeat first
    | (apply WL.q; exact rfl; exact rfl; exact rfl; (first | (apply EvW.move; exact rfl) | (apply EvW.assign; exact rfl)))
    | refine WC.seq ?_ | refine WC.region ?_ | refine WL.nil ?_ | refine WE.next ?_
  try refine WL.wanted rfl rfl rfl ?_
  apply WL.callA ([.blk b #[str ((rk l).2).s, .bool (decide (((rk l).2).e ≠ 0))] 92])
  · exact rfl
  · exact rfl
  · exact fun w => Try.call47 _ w
  · (focus ((repeat (first | exact TakeL.nil | apply TakeL.cons | exact Take.head | apply Take.tail)); done))
  · exact fun w1 S1 hS1 hs1 ho1 => rrnum_spec b (rk l).2 4 (by decide) hk.2 w1 S1 hS1 (by omega)
  rintro _ _ ⟨rfl, rfl⟩
  first | refine WL.app4 ?_ | refine WL.app3 ?_ | refine WL.app2 ?_ | refine WL.app1 ?_ | refine WL.app0 ?_ | skip
  rw [show (rk l).2.num 4 = ra l from rfl]
  repeat first
    | (apply WL.q; exact rfl; exact rfl; exact rfl; (first | (apply EvW.move; exact rfl)))
  try refine WL.wanted rfl rfl rfl ?_
  apply WL.callA ([.blk b #[str ((ra l).2).s, .bool (decide (((ra l).2).e ≠ 0))] 92])
  · exact rfl
  · exact rfl
  · exact fun w => Try.call47 _ w
  · (focus ((repeat (first | exact TakeL.nil | apply TakeL.cons | exact Take.head | apply Take.tail)); done))
  · exact fun w1 S1 hS1 hs1 ho1 => rrnum_spec b (ra l).2 4 (by decide) ha.2 w1 S1 hS1 (by omega)
  rintro _ _ ⟨rfl, rfl⟩
  first | refine WL.app4 ?_ | refine WL.app3 ?_ | refine WL.app2 ?_ | refine WL.app1 ?_ | refine WL.app0 ?_ | skip
  rw [show (ra l).2.num 4 = rb l from rfl]
  repeat first
    | (apply WL.q; exact rfl; exact rfl; exact rfl; (first | (apply EvW.move; exact rfl)))
  try refine WL.wanted rfl rfl rfl ?_
  apply WL.callA ([.blk b #[str ((rb l).2).s, .bool (decide (((rb l).2).e ≠ 0))] 92])
  · exact rfl
  · exact rfl
  · exact fun w => Try.call47 _ w
  · (focus ((repeat (first | exact TakeL.nil | apply TakeL.cons | exact Take.head | apply Take.tail)); done))
  · exact fun w1 S1 hS1 hs1 ho1 => rrnum_spec b (rb l).2 4 (by decide) hb.2 w1 S1 hS1 (by omega)
  rintro _ _ ⟨rfl, rfl⟩
  first | refine WL.app4 ?_ | refine WL.app3 ?_ | refine WL.app2 ?_ | refine WL.app1 ?_ | refine WL.app0 ?_ | skip
  rw [show (rb l).2.num 4 = rc l from rfl]
  repeat first
    | (apply WL.q; exact rfl; exact rfl; exact rfl; (first | (apply EvW.build; exact PlC.eq; exact ZvC.eq; exact rfl; exact rfl; (focus ((repeat (first | exact Fills.nil | (apply Fills.cons; exact rfl; (first | assumption | exact rfl); exact rfl) | exact SetMany.nil | apply SetMany.cons | apply SetMany.succ)); done)))))
  try refine WL.wanted rfl rfl rfl ?_
  (apply WL.alloc; exact rfl; exact ZvC.eq; exact rfl; intro x)
  by_cases h3 : (rk l).1 = 3
  · repeat first
      | (apply WL.q; exact rfl; exact rfl; exact rfl; (first | (apply EvW.move; exact rfl) | (apply EvW.cmpF; exact rfl; exact rfl; exact rfl; omega)))
      | refine WC.seq ?_ | refine WC.region ?_ | refine WL.nil ?_ | refine WE.next ?_ | refine WL.wanted rfl rfl rfl ?_ | (apply WL.store; exact rfl; exact rfl; (first | assumption | exact rfl); exact SzC.eq; (first | assumption | exact rfl); (focus ((repeat (first | apply UpdC.head | apply UpdC.tail | exact SetMany.nil | apply SetMany.cons | apply SetMany.succ)); done)))
    try refine WL.wanted rfl rfl rfl ?_
    apply WL.callA ([.blk b #[str ((rc l).2).s, .bool (decide (((rc l).2).e ≠ 0))] 92])
    · exact rfl
    · exact rfl
    · exact fun w => Try.call48 _ w
    · (focus ((repeat (first | exact TakeL.nil | apply TakeL.cons | exact Take.head | apply Take.tail)); done))
    · exact fun w1 S1 hS1 hs1 ho1 => rrend_spec b (rc l).2 hc.2 w1 S1 hS1 (by omega)
    rintro _ _ ⟨rfl, rfl⟩
    first | refine WL.app4 ?_ | refine WL.app3 ?_ | refine WL.app2 ?_ | refine WL.app1 ?_ | refine WL.app0 ?_ | skip
    by_cases h0 : (rc l).2.fin = 0
    · obtain rfl := (hr.resolve_right fun h => h.1 ⟨h3, h0⟩).2
      repeat first
        | (apply WL.q; exact rfl; exact rfl; exact rfl; (first | (apply EvW.assign; exact rfl) | (apply EvW.cmpF; exact rfl; exact rfl; exact rfl; omega) | (apply EvW.pickF; exact rfl; exact rfl) | (apply EvW.loadAgg; exact rfl; exact AggC.eq; exact SzC.eq; (focus ((repeat (first | exact Take.head | apply Take.tail)); done)); (focus ((repeat (first | exact SubL.nil | apply SubL.cons | apply SubL.succ)); done)))))
        | refine WC.seq ?_ | refine WC.region ?_ | refine WL.nil ?_ | refine WE.next ?_ | refine WC.skip ?_ | refine WC.condF rfl ?_ | refine WC.ret ?_ | refine WL.wanted rfl rfl rfl ?_ | (apply WL.store; exact rfl; exact rfl; (first | assumption | exact rfl); exact SzC.eq; (first | assumption | exact rfl); (focus ((repeat (first | apply UpdC.head | apply UpdC.tail | exact SetMany.nil | apply SetMany.cons | apply SetMany.succ)); done)))
      (apply WE.retC2 (A' := []); exact rfl; exact rfl; exact rfl; (focus ((repeat (first | exact Take.head | apply Take.tail)); done)); exact AggC.eq; exact SzC.eq; exact fun _ h => h.keep (by (focus ((repeat (first | exact TakeL.nil | apply TakeL.cons | exact Take.head | apply Take.tail)); done))))
      exact ⟨rfl, rfl⟩
    · obtain rfl := (hr.resolve_left fun h => h0 h.1.2).2
      repeat first
        | (apply WL.q; exact rfl; exact rfl; exact rfl; (first | (apply EvW.assign; exact rfl) | (apply EvW.cmpT; exact rfl; exact rfl; exact rfl; omega) | (apply EvW.pickF; exact rfl; exact rfl) | (apply EvW.build; exact PlC.eq; exact ZvC.eq; exact rfl; exact rfl; (focus ((repeat (first | exact Fills.nil | (apply Fills.cons; exact rfl; (first | assumption | exact rfl); exact rfl) | exact SetMany.nil | apply SetMany.cons | apply SetMany.succ)); done)))))
        | refine WC.seq ?_ | refine WC.region ?_ | refine WL.nil ?_ | refine WE.next ?_ | refine WC.condT rfl ?_ | refine WC.ret ?_ | refine WE.passRet ?_ | refine WL.wanted rfl rfl rfl ?_ | (apply WL.store; exact rfl; exact rfl; (first | assumption | exact rfl); exact SzC.eq; (first | assumption | exact rfl); (focus ((repeat (first | apply UpdC.head | apply UpdC.tail | exact SetMany.nil | apply SetMany.cons | apply SetMany.succ)); done)))
      (apply WE.retC2 (A' := []); exact rfl; exact rfl; exact rfl; (focus ((repeat (first | exact Take.head | apply Take.tail)); done)); exact AggC.eq; exact SzC.eq; exact fun _ h => h.keep (by (focus ((repeat (first | exact TakeL.nil | apply TakeL.cons | exact Take.head | apply Take.tail)); done))))
      exact ⟨rfl, rfl⟩
  · obtain rfl := (hr.resolve_left fun h => h3 h.1.1).2
    repeat first
      | (apply WL.q; exact rfl; exact rfl; exact rfl; (first | (apply EvW.move; exact rfl) | (apply EvW.assign; exact rfl) | (apply EvW.cmpT; exact rfl; exact rfl; exact rfl; omega) | (apply EvW.pickT; exact rfl; exact rfl) | (apply EvW.build; exact PlC.eq; exact ZvC.eq; exact rfl; exact rfl; (focus ((repeat (first | exact Fills.nil | (apply Fills.cons; exact rfl; (first | assumption | exact rfl); exact rfl) | exact SetMany.nil | apply SetMany.cons | apply SetMany.succ)); done)))))
      | refine WC.seq ?_ | refine WC.region ?_ | refine WL.nil ?_ | refine WE.next ?_ | refine WC.condT rfl ?_ | refine WC.ret ?_ | refine WE.passRet ?_ | refine WL.unwanted rfl rfl rfl rfl ?_ | (apply WL.store; exact rfl; exact rfl; (first | assumption | exact rfl); exact SzC.eq; (first | assumption | exact rfl); (focus ((repeat (first | apply UpdC.head | apply UpdC.tail | exact SetMany.nil | apply SetMany.cons | apply SetMany.succ)); done)))
    (apply WE.retC2 (A' := []); exact rfl; exact rfl; exact rfl; (focus ((repeat (first | exact Take.head | apply Take.tail)); done)); exact AggC.eq; exact SzC.eq; exact fun _ h => h.keep (by (focus ((repeat (first | exact TakeL.nil | apply TakeL.cons | exact Take.head | apply Take.tail)); done))))
    exact ⟨rfl, rfl⟩
end Go.Proofs.Ytdnpofigagdabaa
