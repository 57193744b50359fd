/- The reader's making, the example, and the first law of pack: as many bytes go in as the limit says. -/
import Derived.Test.YtcpodeodgpjbiaaPackC
namespace Go.Proofs.Ytcpodeodgpjbiaa
open Go.RowKit Go.BK

theorem read_spec (l : List UInt8) (w : World) (S : BSet) (hS : (sepL []).sat S w) :
    Tri Try.prog 24 #[str l] w S fun u A => ∃ b, u = ptr b 0 ∧ A = [.blk b #[i64 0, str l] 70] := by
  refine Tri.enter (l := [str l]) Try.func24 rfl Try.ntmps24 rfl [(0, str l)] (subA rfl) hS ?_
  repeat first
    | (apply WL.q; exact rfl; exact rfl; exact rfl; (first | (apply EvW.move; exact rfl) | (apply EvW.assign; exact rfl) | (apply EvW.build; exact PlC.eq; exact ZvC.eq; exact rfl; exact rfl; (focus ((repeat (first | exact Fills.nil | (apply Fills.cons; exact rfl; exact rfl; exact rfl) | exact SetMany.nil | apply SetMany.cons | apply SetMany.succ)); done)))))
    | refine WC.seq ?_ | refine WC.region ?_ | refine WL.nil ?_ | refine WE.next ?_ | refine WC.skip ?_ | refine WC.exit ?_ | refine WE.pass ?_ | refine WE.hit ?_ | refine WE.miss rfl ?_ | refine WE.out ?_ | refine WC.ret ?_ | refine WE.passRet ?_ | refine WE.outRet ?_ | refine WL.wanted rfl rfl rfl ?_
  try refine WL.wanted rfl rfl rfl ?_
  (apply WL.box; exact rfl; exact rfl; exact rfl; intro b)
  repeat first
    | (apply WL.q; exact rfl; exact rfl; exact rfl; (first | (apply EvW.move; exact rfl) | (apply EvW.assign; exact rfl) | (apply EvW.build; exact PlC.eq; exact ZvC.eq; exact rfl; exact rfl; (focus ((repeat (first | exact Fills.nil | (apply Fills.cons; exact rfl; exact rfl; exact rfl) | exact SetMany.nil | apply SetMany.cons | apply SetMany.succ)); done)))))
    | refine WC.seq ?_ | refine WC.region ?_ | refine WL.nil ?_ | refine WE.next ?_ | refine WC.skip ?_ | refine WC.exit ?_ | refine WE.pass ?_ | refine WE.hit ?_ | refine WE.miss rfl ?_ | refine WE.out ?_ | refine WC.ret ?_ | refine WE.passRet ?_ | refine WE.outRet ?_ | refine WL.wanted rfl rfl rfl ?_
  refine WE.ret1 rfl rfl ?_
  exact ⟨b, rfl, rfl⟩
theorem init_fits (n : Int) (r : Nat) (h : n ≤ 9223372036854775807) (hr : r ≤ 140737488355328) : (PW.init n).fits r := ⟨by simp only [PW.init]; omega, by simp only [PW.init]; omega, .inr (by simp [PW.init]; exact hr)⟩
theorem lives_spec (w : World) (S : BSet) (hS : (sepL []).sat S w) : Tri Try.prog 10 #[] w S fun u A => u = .bool true ∧ A = [] := by
  have hf0 := init_fits 9 8 (by decide) (by decide)
  have hm1 : [1, 255].foldl (PW.num 1) (PW.init 9) = PW.mk 0 [1, 255] 9 := by kernel_rfl
  have hm2 : [258].foldl (PW.num 2) (PW.mk 0 [1, 255] 9 : PW) = PW.mk 0 [1, 255, 1, 2] 9 := by kernel_rfl
  have hm3 : [65536].foldl (PW.num 4) (PW.mk 0 [1, 255, 1, 2] 9 : PW) = PW.mk 0 [1, 255, 1, 2, 0, 1, 0, 0] 9 := by kernel_rfl
  have hs : (PW.mk 0 [1, 255, 1, 2, 0, 1, 0, 0] 9 : PW).said = [1, 255, 1, 2, 0, 1, 0, 0] := by kernel_rfl
  refine Tri.enter (l := []) Try.func10 rfl Try.ntmps10 rfl [] (subA rfl) hS ?_
  repeat first
    | (apply WL.q; exact rfl; exact rfl; exact rfl; (first | (apply EvW.move; exact rfl) | (apply EvW.assign; exact rfl) | (apply EvW.extract; exact rfl; exact rfl) | (apply EvW.cmpT; exact rfl; exact rfl; exact rfl; omega) | (apply EvW.cmpF; exact rfl; exact rfl; exact rfl; omega) | (apply EvW.cmp; exact rfl; exact rfl; exact rfl) | (apply EvW.pickT; exact rfl; exact rfl) | (apply EvW.pickF; exact rfl; exact rfl) | (apply EvW.seq; exact rfl; exact rfl) | (apply EvW.peqN; exact rfl; exact rfl; exact UndC.eq)))
    | refine WC.seq ?_ | refine WC.region ?_ | refine WL.nil ?_ | refine WE.next ?_ | refine WC.skip ?_ | refine WC.exit ?_ | refine WE.pass ?_ | refine WE.hit ?_ | refine WE.miss rfl ?_ | refine WE.out ?_ | refine WC.condT rfl ?_ | refine WC.condF rfl ?_ | refine WC.ret ?_ | refine WE.passRet ?_ | refine WE.outRet ?_ | refine WL.wanted rfl rfl rfl ?_ | refine WL.unwanted rfl rfl rfl rfl ?_ | refine WL.unwantedU rfl rfl rfl rfl ?_ | refine WL.unwanted0 rfl rfl rfl ?_
  try refine WL.wanted rfl rfl rfl ?_
  apply WL.callT
  · exact rfl
  · exact rfl
  · exact fun w1 S1 hS1 hs1 ho1 => new_spec 9 w1 S1 hS1
  · exact fun w => Try.call11 _ w
  · (focus ((repeat (first | exact TakeL.nil | apply TakeL.cons | exact Take.head | apply Take.tail)); done))
  rintro _ _ ⟨b, rfl, rfl⟩
  first | refine WL.app0 ?_ | refine WL.app1 ?_ | refine WL.app2 ?_ | refine WL.app3 ?_ | refine WL.app4 ?_ | skip
  repeat first
    | (apply WL.q; exact rfl; exact rfl; exact rfl; (first | (apply EvW.move; exact rfl) | (apply EvW.assign; exact rfl) | (apply EvW.extract; exact rfl; exact rfl) | (apply EvW.cmpT; exact rfl; exact rfl; exact rfl; omega) | (apply EvW.cmpF; exact rfl; exact rfl; exact rfl; omega) | (apply EvW.cmp; exact rfl; exact rfl; exact rfl) | (apply EvW.pickT; exact rfl; exact rfl) | (apply EvW.pickF; exact rfl; exact rfl) | (apply EvW.seq; exact rfl; exact rfl) | (apply EvW.peqN; exact rfl; exact rfl; exact UndC.eq)))
    | refine WC.seq ?_ | refine WC.region ?_ | refine WL.nil ?_ | refine WE.next ?_ | refine WC.skip ?_ | refine WC.exit ?_ | refine WE.pass ?_ | refine WE.hit ?_ | refine WE.miss rfl ?_ | refine WE.out ?_ | refine WC.condT rfl ?_ | refine WC.condF rfl ?_ | refine WC.ret ?_ | refine WE.passRet ?_ | refine WE.outRet ?_ | refine WL.wanted rfl rfl rfl ?_ | refine WL.unwanted rfl rfl rfl rfl ?_ | refine WL.unwantedU rfl rfl rfl rfl ?_ | refine WL.unwanted0 rfl rfl rfl ?_
  try refine WL.wanted rfl rfl rfl ?_
  apply WL.callT
  · exact rfl
  · exact rfl
  · exact fun w1 S1 hS1 hs1 ho1 => read_spec _ w1 S1 hS1
  · exact fun w => Try.call24 _ w
  · (focus ((repeat (first | exact TakeL.nil | apply TakeL.cons | exact Take.head | apply Take.tail)); done))
  rintro _ _ ⟨b2, rfl, rfl⟩
  first | refine WL.app0 ?_ | refine WL.app1 ?_ | refine WL.app2 ?_ | refine WL.app3 ?_ | refine WL.app4 ?_ | skip
  repeat first
    | (apply WL.q; exact rfl; exact rfl; exact rfl; (first | (apply EvW.move; exact rfl) | (apply EvW.assign; exact rfl) | (apply EvW.extract; exact rfl; exact rfl) | (apply EvW.cmpT; exact rfl; exact rfl; exact rfl; omega) | (apply EvW.cmpF; exact rfl; exact rfl; exact rfl; omega) | (apply EvW.cmp; exact rfl; exact rfl; exact rfl) | (apply EvW.pickT; exact rfl; exact rfl) | (apply EvW.pickF; exact rfl; exact rfl) | (apply EvW.seq; exact rfl; exact rfl) | (apply EvW.peqN; exact rfl; exact rfl; exact UndC.eq)))
    | refine WC.seq ?_ | refine WC.region ?_ | refine WL.nil ?_ | refine WE.next ?_ | refine WC.skip ?_ | refine WC.exit ?_ | refine WE.pass ?_ | refine WE.hit ?_ | refine WE.miss rfl ?_ | refine WE.out ?_ | refine WC.condT rfl ?_ | refine WC.condF rfl ?_ | refine WC.ret ?_ | refine WE.passRet ?_ | refine WE.outRet ?_ | refine WL.wanted rfl rfl rfl ?_ | refine WL.unwanted rfl rfl rfl rfl ?_ | refine WL.unwantedU rfl rfl rfl rfl ?_ | refine WL.unwanted0 rfl rfl rfl ?_
  try refine WL.wanted rfl rfl rfl ?_
  (apply WL.buildSlice; exact rfl; exact UndC.eq; exact SzC.eq; exact ZvC.eq; exact rfl; exact rfl; exact rfl; ((focus ((repeat (first | exact Flat.nil | (apply Flat.one; exact rfl) | (apply Flat.cons; exact rfl; exact rfl))); done))); exact rfl; exact rfl; intro c)
  try refine WL.wanted rfl rfl rfl ?_
  apply WL.callA ([.own 5 1 (Value.slice none 0 0) (PW.init 9).out.length ((PW.init 9).out.map byt), .blk b #[i64 (PW.init 9).e, Value.slice none 0 0, i64 (PW.init 9).lim] 63])
  · exact rfl
  · exact rfl
  · exact fun w => Try.call12 _ w
  · (focus ((repeat (first | exact TakeL.nil | apply TakeL.cons | exact Take.head | apply Take.tail)); done))
  · exact fun w1 S1 hS1 hs1 ho1 => byte_spec b _ _ (PW.init 9) [1, 255] w1 S1 hS1 ((ho1 _ _ .head).blkRow rfl (fun k u h => by simpa using h) (by decide)) (hf0.le (by decide)) (by decide)
  rintro _ _ ⟨rfl, v1, rfl⟩
  first | refine WL.app0 ?_ | refine WL.app1 ?_ | refine WL.app2 ?_ | refine WL.app3 ?_ | refine WL.app4 ?_ | skip
  rw [hm1]
  repeat first
    | (apply WL.q; exact rfl; exact rfl; exact rfl; (first | (apply EvW.move; exact rfl) | (apply EvW.assign; exact rfl) | (apply EvW.extract; exact rfl; exact rfl) | (apply EvW.cmpT; exact rfl; exact rfl; exact rfl; omega) | (apply EvW.cmpF; exact rfl; exact rfl; exact rfl; omega) | (apply EvW.cmp; exact rfl; exact rfl; exact rfl) | (apply EvW.pickT; exact rfl; exact rfl) | (apply EvW.pickF; exact rfl; exact rfl) | (apply EvW.seq; exact rfl; exact rfl) | (apply EvW.peqN; exact rfl; exact rfl; exact UndC.eq)))
    | refine WC.seq ?_ | refine WC.region ?_ | refine WL.nil ?_ | refine WE.next ?_ | refine WC.skip ?_ | refine WC.exit ?_ | refine WE.pass ?_ | refine WE.hit ?_ | refine WE.miss rfl ?_ | refine WE.out ?_ | refine WC.condT rfl ?_ | refine WC.condF rfl ?_ | refine WC.ret ?_ | refine WE.passRet ?_ | refine WE.outRet ?_ | refine WL.wanted rfl rfl rfl ?_ | refine WL.unwanted rfl rfl rfl rfl ?_ | refine WL.unwantedU rfl rfl rfl rfl ?_ | refine WL.unwanted0 rfl rfl rfl ?_
  try refine WL.wanted rfl rfl rfl ?_
  (apply WL.buildSlice; exact rfl; exact UndC.eq; exact SzC.eq; exact ZvC.eq; exact rfl; exact rfl; exact rfl; ((focus ((repeat (first | exact Flat.nil | (apply Flat.one; exact rfl) | (apply Flat.cons; exact rfl; exact rfl))); done))); exact rfl; exact rfl; intro c2)
  try refine WL.wanted rfl rfl rfl ?_
  apply WL.callA ([.own 5 1 (v1) (PW.mk 0 [1, 255] 9).out.length ((PW.mk 0 [1, 255] 9).out.map byt), .blk b #[i64 (PW.mk 0 [1, 255] 9).e, v1, i64 (PW.mk 0 [1, 255] 9).lim] 63])
  · exact rfl
  · exact rfl
  · exact fun w => Try.call20 _ w
  · (focus ((repeat (first | exact TakeL.nil | apply TakeL.cons | exact Take.head | apply Take.tail)); done))
  · exact fun w1 S1 hS1 hs1 ho1 => word_spec b _ _ (PW.mk 0 [1, 255] 9) [258] w1 S1 hS1 ((ho1 _ _ .head).blkRow rfl (fun k u h => by simpa using h) (by decide)) ⟨by decide, by decide, .inr (by decide)⟩ (by decide)
  rintro _ _ ⟨rfl, v2, rfl⟩
  first | refine WL.app0 ?_ | refine WL.app1 ?_ | refine WL.app2 ?_ | refine WL.app3 ?_ | refine WL.app4 ?_ | skip
  rw [hm2]
  repeat first
    | (apply WL.q; exact rfl; exact rfl; exact rfl; (first | (apply EvW.move; exact rfl) | (apply EvW.assign; exact rfl) | (apply EvW.extract; exact rfl; exact rfl) | (apply EvW.cmpT; exact rfl; exact rfl; exact rfl; omega) | (apply EvW.cmpF; exact rfl; exact rfl; exact rfl; omega) | (apply EvW.cmp; exact rfl; exact rfl; exact rfl) | (apply EvW.pickT; exact rfl; exact rfl) | (apply EvW.pickF; exact rfl; exact rfl) | (apply EvW.seq; exact rfl; exact rfl) | (apply EvW.peqN; exact rfl; exact rfl; exact UndC.eq)))
    | refine WC.seq ?_ | refine WC.region ?_ | refine WL.nil ?_ | refine WE.next ?_ | refine WC.skip ?_ | refine WC.exit ?_ | refine WE.pass ?_ | refine WE.hit ?_ | refine WE.miss rfl ?_ | refine WE.out ?_ | refine WC.condT rfl ?_ | refine WC.condF rfl ?_ | refine WC.ret ?_ | refine WE.passRet ?_ | refine WE.outRet ?_ | refine WL.wanted rfl rfl rfl ?_ | refine WL.unwanted rfl rfl rfl rfl ?_ | refine WL.unwantedU rfl rfl rfl rfl ?_ | refine WL.unwanted0 rfl rfl rfl ?_
  try refine WL.wanted rfl rfl rfl ?_
  (apply WL.buildSlice; exact rfl; exact UndC.eq; exact SzC.eq; exact ZvC.eq; exact rfl; exact rfl; exact rfl; ((focus ((repeat (first | exact Flat.nil | (apply Flat.one; exact rfl) | (apply Flat.cons; exact rfl; exact rfl))); done))); exact rfl; exact rfl; intro c3)
  try refine WL.wanted rfl rfl rfl ?_
  apply WL.callA ([.own 5 1 (v2) (PW.mk 0 [1, 255, 1, 2] 9).out.length ((PW.mk 0 [1, 255, 1, 2] 9).out.map byt), .blk b #[i64 (PW.mk 0 [1, 255, 1, 2] 9).e, v2, i64 (PW.mk 0 [1, 255, 1, 2] 9).lim] 63])
  · exact rfl
  · exact rfl
  · exact fun w => Try.call19 _ w
  · (focus ((repeat (first | exact TakeL.nil | apply TakeL.cons | exact Take.head | apply Take.tail)); done))
  · exact fun w1 S1 hS1 hs1 ho1 => long_spec b _ _ (PW.mk 0 [1, 255, 1, 2] 9) [65536] w1 S1 hS1 ((ho1 _ _ .head).blkRow rfl (fun k u h => by simpa using h) (by decide)) ⟨by decide, by decide, .inr (by decide)⟩ (by decide)
  rintro _ _ ⟨rfl, v3, rfl⟩
  first | refine WL.app0 ?_ | refine WL.app1 ?_ | refine WL.app2 ?_ | refine WL.app3 ?_ | refine WL.app4 ?_ | skip
  rw [hm3]
  repeat first
    | (apply WL.q; exact rfl; exact rfl; exact rfl; (first | (apply EvW.move; exact rfl) | (apply EvW.assign; exact rfl) | (apply EvW.extract; exact rfl; exact rfl) | (apply EvW.cmpT; exact rfl; exact rfl; exact rfl; omega) | (apply EvW.cmpF; exact rfl; exact rfl; exact rfl; omega) | (apply EvW.cmp; exact rfl; exact rfl; exact rfl) | (apply EvW.pickT; exact rfl; exact rfl) | (apply EvW.pickF; exact rfl; exact rfl) | (apply EvW.seq; exact rfl; exact rfl) | (apply EvW.peqN; exact rfl; exact rfl; exact UndC.eq)))
    | refine WC.seq ?_ | refine WC.region ?_ | refine WL.nil ?_ | refine WE.next ?_ | refine WC.skip ?_ | refine WC.exit ?_ | refine WE.pass ?_ | refine WE.hit ?_ | refine WE.miss rfl ?_ | refine WE.out ?_ | refine WC.condT rfl ?_ | refine WC.condF rfl ?_ | refine WC.ret ?_ | refine WE.passRet ?_ | refine WE.outRet ?_ | refine WL.wanted rfl rfl rfl ?_ | refine WL.unwanted rfl rfl rfl rfl ?_ | refine WL.unwantedU rfl rfl rfl rfl ?_ | refine WL.unwanted0 rfl rfl rfl ?_
  try refine WL.wanted rfl rfl rfl ?_
  apply WL.callT
  · exact rfl
  · exact rfl
  · exact fun w1 S1 hS1 hs1 ho1 => done_spec b v3 (PW.mk 0 [1, 255, 1, 2, 0, 1, 0, 0] 9) w1 S1 hS1
  · exact fun w => Try.call14 _ w
  · (focus ((repeat (first | exact TakeL.nil | apply TakeL.cons | exact Take.head | apply Take.tail)); done))
  rintro _ _ ⟨rfl, rfl⟩
  first | refine WL.app0 ?_ | refine WL.app1 ?_ | refine WL.app2 ?_ | refine WL.app3 ?_ | refine WL.app4 ?_ | skip
  rw [hs]
  repeat first
    | (apply WL.q; exact rfl; exact rfl; exact rfl; (first | (apply EvW.move; exact rfl) | (apply EvW.assign; exact rfl) | (apply EvW.extract; exact rfl; exact rfl) | (apply EvW.cmpT; exact rfl; exact rfl; exact rfl; omega) | (apply EvW.cmpF; exact rfl; exact rfl; exact rfl; omega) | (apply EvW.cmp; exact rfl; exact rfl; exact rfl) | (apply EvW.pickT; exact rfl; exact rfl) | (apply EvW.pickF; exact rfl; exact rfl) | (apply EvW.seq; exact rfl; exact rfl) | (apply EvW.peqN; exact rfl; exact rfl; exact UndC.eq)))
    | refine WC.seq ?_ | refine WC.region ?_ | refine WL.nil ?_ | refine WE.next ?_ | refine WC.skip ?_ | refine WC.exit ?_ | refine WE.pass ?_ | refine WE.hit ?_ | refine WE.miss rfl ?_ | refine WE.out ?_ | refine WC.condT rfl ?_ | refine WC.condF rfl ?_ | refine WC.ret ?_ | refine WE.passRet ?_ | refine WE.outRet ?_ | refine WL.wanted rfl rfl rfl ?_ | refine WL.unwanted rfl rfl rfl rfl ?_ | refine WL.unwantedU rfl rfl rfl rfl ?_ | refine WL.unwanted0 rfl rfl rfl ?_
  try refine WL.wanted rfl rfl rfl ?_
  apply WL.callT
  · exact rfl
  · exact rfl
  · exact fun w1 S1 hS1 hs1 ho1 => len_spec b v3 (PW.mk 0 [1, 255, 1, 2, 0, 1, 0, 0] 9) w1 S1 hS1
  · exact fun w => Try.call13 _ w
  · (focus ((repeat (first | exact TakeL.nil | apply TakeL.cons | exact Take.head | apply Take.tail)); done))
  rintro _ _ ⟨rfl, rfl⟩
  first | refine WL.app0 ?_ | refine WL.app1 ?_ | refine WL.app2 ?_ | refine WL.app3 ?_ | refine WL.app4 ?_ | skip
  repeat first
    | (apply WL.q; exact rfl; exact rfl; exact rfl; (first | (apply EvW.move; exact rfl) | (apply EvW.assign; exact rfl) | (apply EvW.extract; exact rfl; exact rfl) | (apply EvW.cmpT; exact rfl; exact rfl; exact rfl; omega) | (apply EvW.cmpF; exact rfl; exact rfl; exact rfl; omega) | (apply EvW.cmp; exact rfl; exact rfl; exact rfl) | (apply EvW.pickT; exact rfl; exact rfl) | (apply EvW.pickF; exact rfl; exact rfl) | (apply EvW.seq; exact rfl; exact rfl) | (apply EvW.peqN; exact rfl; exact rfl; exact UndC.eq)))
    | refine WC.seq ?_ | refine WC.region ?_ | refine WL.nil ?_ | refine WE.next ?_ | refine WC.skip ?_ | refine WC.exit ?_ | refine WE.pass ?_ | refine WE.hit ?_ | refine WE.miss rfl ?_ | refine WE.out ?_ | refine WC.condT rfl ?_ | refine WC.condF rfl ?_ | refine WC.ret ?_ | refine WE.passRet ?_ | refine WE.outRet ?_ | refine WL.wanted rfl rfl rfl ?_ | refine WL.unwanted rfl rfl rfl rfl ?_ | refine WL.unwantedU rfl rfl rfl rfl ?_ | refine WL.unwanted0 rfl rfl rfl ?_
  refine WE.bare ?_
  refine WE.ret1 rfl rfl ?_
  exact ⟨rfl, rfl⟩
end Go.Proofs.Ytcpodeodgpjbiaa
