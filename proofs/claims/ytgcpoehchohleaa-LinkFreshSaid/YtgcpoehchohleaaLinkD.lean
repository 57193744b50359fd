/- What is made is read, and what is read was made; the chapter's example. -/
import Derived.Test.YtgcpoehchohleaaLinkB
namespace Go.Proofs.Ytgcpoehchohleaa
open Go.RowKit Go.BK

theorem lput_step {m : PW} {b : List UInt8} (h : (m.put b).e = 0) : m.e = 0 ∧ (m.put b).out = m.out ++ b := by
  unfold PW.put at h ⊢
  split at h
  · simp only [PW.note] at h
    split at h
    · omega
    · contradiction
  · rename_i hc
    rw [if_neg hc]
    split at h
    · rename_i he
      rw [if_pos he]
      exact ⟨he, rfl⟩
    · contradiction
theorem lnum_step {m : PW} {k : Nat} {x : Int} (h : (m.num k x).e = 0) : m.e = 0 ∧ (0 ≤ x ∧ x < 256 ^ k) ∧ (m.num k x).out = m.out ++ be k x := by
  by_cases hb : x < 0 ∨ 256 ^ k ≤ x
  · rw [num_wrong k m x hb] at h
    simp only [PW.note] at h
    split at h
    · omega
    · contradiction
  · have h0 : 0 ≤ x ∧ x < 256 ^ k := by omega
    rw [num_right k m x h0.1 h0.2] at h ⊢
    exact ⟨(lput_step h).1, h0, (lput_step h).2⟩
theorem lnum_ok (k : Nat) (m : PW) (x : Int) (he : m.e = 0) (h0 : 0 ≤ x) (h1 : x < 256 ^ k) (hr : (m.out.length : Int) + k ≤ m.lim) : m.num k x = ⟨0, m.out ++ be k x, m.lim⟩ := by
  rw [num_right k m x h0 h1]
  unfold PW.put
  rw [if_neg (by rw [be_length]; omega), if_pos he]
  cases m
  simp only [PW.add] at he ⊢
  rw [he]
theorem lnum_app (k : Nat) (x : Int) (t : List UInt8) (h : numOf (be k x) = x) : (PR.mk 0 (be k x ++ t)).num k = (x, PR.mk 0 t) := by
  rw [num_good (PR.mk 0 (be k x ++ t)) k rfl (by simp [be_length])]
  dsimp only
  rw [List.take_left' (be_length k x), List.drop_left' (be_length k x), h]
def tBytes (x : Said) : List UInt8 := be 1 x.p ++ (be 2 x.n ++ be 4 x.s)
theorem tBytes_len (x : Said) : (tBytes x).length = 7 := by simp [tBytes, be_length]
theorem tM_of {x : Said} (h1 : 0 ≤ x.p ∧ x.p < 256) (h2 : 0 ≤ x.n ∧ x.n < 65536) (h3 : 0 ≤ x.s ∧ x.s < 4294967296) : tM x.p x.n x.s = ⟨0, tBytes x, 7⟩ := by
  unfold tM
  rw [lnum_ok 1 (PW.init 7) x.p rfl h1.1 (by simpa using h1.2) (by decide)]
  rw [lnum_ok 2 _ x.n rfl h2.1 (by simpa using h2.2) (by simp [PW.init, be_length] <;> decide)]
  rw [lnum_ok 4 _ x.s rfl h3.1 (by simpa using h3.2) (by simp [PW.init, be_length] <;> decide)]
  simp [tBytes, PW.init] <;> decide
theorem tM_step {x : Said} (h : (tM x.p x.n x.s).e = 0) : (0 ≤ x.p ∧ x.p < 256) ∧ (0 ≤ x.n ∧ x.n < 65536) ∧ (0 ≤ x.s ∧ x.s < 4294967296) := by
  obtain ⟨h2, b3, _⟩ := lnum_step h
  obtain ⟨h1, b2, _⟩ := lnum_step h2
  obtain ⟨_, b1, _⟩ := lnum_step h1
  exact ⟨by simpa using b1, by simpa using b2, by simpa using b3⟩
theorem make_ok {x : Said} (h : x.small) : makeF x = (frame (tBytes x ++ x.t), 0) := by
  have hl := h.t
  unfold makeF
  rw [tM_of h.p h.n h.s, if_neg (fun k => k rfl), if_neg (by omega)]
theorem make_cases {x : Said} {q : List UInt8} (h : makeF x = (q, 0)) : x.small ∧ q = frame (tBytes x ++ x.t) := by
  unfold makeF at h
  by_cases he : (tM x.p x.n x.s).e = 0
  rotate_left
  · rw [if_pos he] at h; exact absurd (congrArg Prod.snd h) he
  rw [if_neg (fun k => k he)] at h
  by_cases hl : (x.t.length : Int) > 1000
  · rw [if_pos hl] at h; exact absurd (congrArg Prod.snd h) (by simp)
  rw [if_neg hl] at h
  obtain ⟨b1, b2, b3⟩ := tM_step he
  rw [tM_of b1 b2 b3] at h
  exact ⟨⟨b1, b2, b3, by omega⟩, (congrArg Prod.fst h).symm⟩
theorem read_frame {x : Said} (h : x.small) : readF (frame (tBytes x ++ x.t)) = (x, 0) := by
  have hl := h.t
  have h7 := tBytes_len x
  have e1 : r1 (tBytes x ++ x.t) = (x.p, PR.mk 0 (be 2 x.n ++ (be 4 x.s ++ x.t))) := by
    have e : tBytes x ++ x.t = be 1 x.p ++ (be 2 x.n ++ (be 4 x.s ++ x.t)) := by simp [tBytes]
    rw [e]; exact lnum_app 1 x.p _ (numOf_be1 _ h.p.1 h.p.2)
  have e2 : r2 (tBytes x ++ x.t) = (x.n, PR.mk 0 (be 4 x.s ++ x.t)) := by unfold r2; rw [e1]; exact lnum_app 2 x.n _ (numOf_be2 _ h.n.1 h.n.2)
  have e3 : r3 (tBytes x ++ x.t) = (x.s, PR.mk 0 x.t) := by unfold r3; rw [e2]; exact lnum_app 4 x.s _ (numOf_be4 _ h.s.1 h.s.2)
  unfold readF
  rw [openF_frame _ (by rw [List.length_append]; omega)]
  dsimp only
  rw [if_neg (fun k => k rfl), if_neg (by rw [List.length_append]; omega), if_neg (by rw [List.length_append]; omega), e1, e2, e3, List.drop_left' h7]
theorem make_back {x : Said} {q : List UInt8} (h : makeF x = (q, 0)) : readF q = (x, 0) ∧ q.length ≤ 1013 := by
  obtain ⟨hs, rfl⟩ := make_cases h
  have hl := hs.t
  have h7 := tBytes_len x
  exact ⟨read_frame hs, by rw [frame_length, List.length_append]; omega⟩
theorem read_cases {l : List UInt8} {x : Said} (h : readF l = (x, 0)) : l = frame (tBytes x ++ x.t) ∧ x.small := by
  refine ⟨?_, readF_small h⟩
  unfold readF at h
  obtain ⟨b, e, hb⟩ : ∃ b e, openF l = (b, e) := ⟨_, _, rfl⟩
  rw [hb] at h
  dsimp only at h
  by_cases he : e = 0
  rotate_left
  · rw [if_pos he] at h; exact absurd (congrArg Prod.snd h) he
  rw [if_neg (fun k => k he)] at h
  by_cases h7 : (b.length : Int) < 7
  · rw [if_pos h7] at h; exact absurd (congrArg Prod.snd h) (by simp)
  rw [if_neg h7] at h
  by_cases h8 : (b.length : Int) > 1007
  · rw [if_pos h8] at h; exact absurd (congrArg Prod.snd h) (by simp)
  rw [if_neg h8] at h
  subst he
  obtain ⟨rfl, _⟩ := openF_ok hb
  cases h
  have e1 : r1 b = (numOf (b.take 1), PR.mk 0 (b.drop 1)) := num_good (PR.mk 0 b) 1 rfl (by show 1 ≤ b.length; omega)
  have e2 : r2 b = (numOf ((b.drop 1).take 2), PR.mk 0 ((b.drop 1).drop 2)) := by unfold r2; rw [e1]; exact num_good (PR.mk 0 (b.drop 1)) 2 rfl (by simp only [List.length_drop]; omega)
  have e3 : r3 b = (numOf (((b.drop 1).drop 2).take 4), PR.mk 0 (((b.drop 1).drop 2).drop 4)) := by unfold r3; rw [e2]; exact num_good (PR.mk 0 ((b.drop 1).drop 2)) 4 rfl (by simp only [List.length_drop]; omega)
  unfold tBytes
  dsimp only
  rw [e1, e2, e3]
  dsimp only
  rw [be_numOf (b.take 1) 1 (by decide) (by simp; omega), be_numOf ((b.drop 1).take 2) 2 (by decide) (by simp; omega), be_numOf (((b.drop 1).drop 2).take 4) 4 (by decide) (by simp; omega)]
  congr 1
  rw [List.append_assoc, List.append_assoc, show b.drop 7 = ((b.drop 1).drop 2).drop 4 from by simp, List.take_append_drop, List.take_append_drop, List.take_append_drop]
theorem read_back {l : List UInt8} {x : Said} (h : readF l = (x, 0)) : makeF x = (l, 0) := by
  obtain ⟨rfl, hs⟩ := read_cases h
  exact make_ok hs
theorem lives09_spec  (w : World) (S : BSet) (hS : (sepL []).sat S w)  :
    Tri Try.prog 10 #[] w S fun u A => u = .bool true ∧ A = [] := by
  refine Tri.enter (l := []) Try.func10 rfl Try.ntmps10 rfl [] (subA rfl) hS ?_
  have hs : (Said.mk 3 1 7 [120]).small := ⟨by decide, by decide, by decide, by decide⟩
  obtain ⟨F, hF⟩ : ∃ F, frame (tBytes (Said.mk 3 1 7 [120]) ++ [120]) = F := ⟨_, rfl⟩
  have hm : makeF (Said.mk 3 1 7 [120]) = (F, 0) := by rw [← hF]; exact make_ok hs
  obtain ⟨hr, hl⟩ := make_back hm
  have t1 : takeF (Rcv.new 3 2) 9 (Said.mk 3 1 7 [120], 0) = (⟨7, 0, 1, 3, 2⟩, [120], 0) := rfl
  have t2 : takeF ⟨7, 0, 1, 3, 2⟩ 9 (Said.mk 3 1 7 [120], 0) = (⟨7, 0, 1, 3, 2⟩, [], 18) := rfl
  repeat first
    | (apply WL.q; exact rfl; exact rfl; exact rfl; (first | (apply EvW.move; exact rfl) | (apply EvW.assign; exact rfl) | (apply EvW.nilPtr; exact rfl) | (apply EvW.fieldAddr0; exact rfl; exact FldC.eq) | (apply EvW.fieldAddr; exact rfl; exact FldC.eq) | (apply EvW.extract; exact rfl; exact rfl) | (apply EvW.cmpT; exact rfl; exact rfl; exact rfl; omega) | (apply EvW.cmpF; exact rfl; exact rfl; exact rfl; omega) | (apply EvW.cmp; exact rfl; exact rfl; exact rfl) | (apply EvW.pickT; exact rfl; exact rfl) | (apply EvW.pickF; exact rfl; exact rfl) | (apply EvW.notT; exact rfl) | (apply EvW.notF; exact rfl) | (apply EvW.notP; exact rfl) | (apply EvW.seqS; exact rfl; exact rfl) | (apply EvW.seq; exact rfl; exact rfl) | (apply EvW.peqN; exact rfl; exact rfl; exact UndC.eq) | (apply EvW.fldRow; exact rfl; exact FldC.eq; assumption; omega) | (apply EvW.fldOwn; exact rfl; exact FldC.eq; (focus ((repeat (first | exact Take.head | apply Take.tail)); done)); omega)))
    | refine WC.seq ?_ | refine WC.region ?_ | refine WL.nil ?_ | refine WE.next ?_ | refine WC.skip ?_ | refine WC.exit ?_ | refine WE.pass ?_ | refine WE.hit ?_ | refine WE.miss rfl ?_ | refine WE.out ?_ | refine WC.condT rfl ?_ | refine WC.condF rfl ?_ | refine WC.ret ?_ | refine WE.passRet ?_ | refine WE.outRet ?_ | refine WL.wanted rfl rfl rfl ?_ | refine WL.unwanted rfl rfl rfl rfl ?_ | refine WL.unwantedU rfl rfl rfl rfl ?_ | refine WL.unwanted0 rfl rfl rfl ?_
  try refine WL.wanted rfl rfl rfl ?_
  apply WL.callA ([])
  · exact rfl
  · exact rfl
  · exact fun w => Try.call18 _ w
  · (focus ((repeat (first | exact TakeL.nil | apply TakeL.cons | exact Take.head | apply Take.tail)); done))
  · exact fun w1 S1 hS1 hs1 ho1 => newSender_spec 3 w1 S1 hS1
  rintro _ _ ⟨b, rfl, rfl⟩
  first | refine WL.app4 ?_ | refine WL.app3 ?_ | refine WL.app2 ?_ | refine WL.app1 ?_ | refine WL.app0 ?_ | skip
  repeat first
    | (apply WL.q; exact rfl; exact rfl; exact rfl; (first | (apply EvW.move; exact rfl) | (apply EvW.assign; exact rfl) | (apply EvW.nilPtr; exact rfl) | (apply EvW.fieldAddr0; exact rfl; exact FldC.eq) | (apply EvW.fieldAddr; exact rfl; exact FldC.eq) | (apply EvW.extract; exact rfl; exact rfl) | (apply EvW.cmpT; exact rfl; exact rfl; exact rfl; omega) | (apply EvW.cmpF; exact rfl; exact rfl; exact rfl; omega) | (apply EvW.cmp; exact rfl; exact rfl; exact rfl) | (apply EvW.pickT; exact rfl; exact rfl) | (apply EvW.pickF; exact rfl; exact rfl) | (apply EvW.notT; exact rfl) | (apply EvW.notF; exact rfl) | (apply EvW.notP; exact rfl) | (apply EvW.seqS; exact rfl; exact rfl) | (apply EvW.seq; exact rfl; exact rfl) | (apply EvW.peqN; exact rfl; exact rfl; exact UndC.eq) | (apply EvW.fldRow; exact rfl; exact FldC.eq; assumption; omega) | (apply EvW.fldOwn; exact rfl; exact FldC.eq; (focus ((repeat (first | exact Take.head | apply Take.tail)); done)); omega)))
    | refine WC.seq ?_ | refine WC.region ?_ | refine WL.nil ?_ | refine WE.next ?_ | refine WC.skip ?_ | refine WC.exit ?_ | refine WE.pass ?_ | refine WE.hit ?_ | refine WE.miss rfl ?_ | refine WE.out ?_ | refine WC.condT rfl ?_ | refine WC.condF rfl ?_ | refine WC.ret ?_ | refine WE.passRet ?_ | refine WE.outRet ?_ | refine WL.wanted rfl rfl rfl ?_ | refine WL.unwanted rfl rfl rfl rfl ?_ | refine WL.unwantedU rfl rfl rfl rfl ?_ | refine WL.unwanted0 rfl rfl rfl ?_
  try refine WL.wanted rfl rfl rfl ?_
  apply WL.callA ([])
  · exact rfl
  · exact rfl
  · exact fun w => Try.call15 _ w
  · (focus ((repeat (first | exact TakeL.nil | apply TakeL.cons | exact Take.head | apply Take.tail)); done))
  · exact fun w1 S1 hS1 hs1 ho1 => newReceiver_spec 3 2 w1 S1 hS1
  rintro _ _ ⟨q, rfl, rfl⟩
  first | refine WL.app4 ?_ | refine WL.app3 ?_ | refine WL.app2 ?_ | refine WL.app1 ?_ | refine WL.app0 ?_ | skip
  repeat first
    | (apply WL.q; exact rfl; exact rfl; exact rfl; (first | (apply EvW.move; exact rfl) | (apply EvW.assign; exact rfl) | (apply EvW.nilPtr; exact rfl) | (apply EvW.fieldAddr0; exact rfl; exact FldC.eq) | (apply EvW.fieldAddr; exact rfl; exact FldC.eq) | (apply EvW.extract; exact rfl; exact rfl) | (apply EvW.cmpT; exact rfl; exact rfl; exact rfl; omega) | (apply EvW.cmpF; exact rfl; exact rfl; exact rfl; omega) | (apply EvW.cmp; exact rfl; exact rfl; exact rfl) | (apply EvW.pickT; exact rfl; exact rfl) | (apply EvW.pickF; exact rfl; exact rfl) | (apply EvW.notT; exact rfl) | (apply EvW.notF; exact rfl) | (apply EvW.notP; exact rfl) | (apply EvW.seqS; exact rfl; exact rfl) | (apply EvW.seq; exact rfl; exact rfl) | (apply EvW.peqN; exact rfl; exact rfl; exact UndC.eq) | (apply EvW.fldRow; exact rfl; exact FldC.eq; assumption; omega) | (apply EvW.fldOwn; exact rfl; exact FldC.eq; (focus ((repeat (first | exact Take.head | apply Take.tail)); done)); omega)))
    | refine WC.seq ?_ | refine WC.region ?_ | refine WL.nil ?_ | refine WE.next ?_ | refine WC.skip ?_ | refine WC.exit ?_ | refine WE.pass ?_ | refine WE.hit ?_ | refine WE.miss rfl ?_ | refine WE.out ?_ | refine WC.condT rfl ?_ | refine WC.condF rfl ?_ | refine WC.ret ?_ | refine WE.passRet ?_ | refine WE.outRet ?_ | refine WL.wanted rfl rfl rfl ?_ | refine WL.unwanted rfl rfl rfl rfl ?_ | refine WL.unwantedU rfl rfl rfl rfl ?_ | refine WL.unwanted0 rfl rfl rfl ?_
  try refine WL.wanted rfl rfl rfl ?_
  apply WL.callA ([.blk q #[i64 (Rcv.new 3 2).last, i64 (Rcv.new 3 2).lost, i64 (Rcv.new 3 2).num, i64 (Rcv.new 3 2).peer, i64 (Rcv.new 3 2).age] 44])
  · exact rfl
  · exact rfl
  · exact fun w => Try.call17 _ w
  · (focus ((repeat (first | exact TakeL.nil | apply TakeL.cons | exact Take.head | apply Take.tail)); done))
  · exact fun w1 S1 hS1 hs1 ho1 => last_spec q (Rcv.new 3 2) w1 S1 hS1
  rintro _ _ ⟨rfl, rfl⟩
  first | refine WL.app4 ?_ | refine WL.app3 ?_ | refine WL.app2 ?_ | refine WL.app1 ?_ | refine WL.app0 ?_ | skip
  repeat first
    | (apply WL.q; exact rfl; exact rfl; exact rfl; (first | (apply EvW.move; exact rfl) | (apply EvW.assign; exact rfl) | (apply EvW.nilPtr; exact rfl) | (apply EvW.fieldAddr0; exact rfl; exact FldC.eq) | (apply EvW.fieldAddr; exact rfl; exact FldC.eq) | (apply EvW.extract; exact rfl; exact rfl) | (apply EvW.cmpT; exact rfl; exact rfl; exact rfl; omega) | (apply EvW.cmpF; exact rfl; exact rfl; exact rfl; omega) | (apply EvW.cmp; exact rfl; exact rfl; exact rfl) | (apply EvW.pickT; exact rfl; exact rfl) | (apply EvW.pickF; exact rfl; exact rfl) | (apply EvW.notT; exact rfl) | (apply EvW.notF; exact rfl) | (apply EvW.notP; exact rfl) | (apply EvW.seqS; exact rfl; exact rfl) | (apply EvW.seq; exact rfl; exact rfl) | (apply EvW.peqN; exact rfl; exact rfl; exact UndC.eq) | (apply EvW.fldRow; exact rfl; exact FldC.eq; assumption; omega) | (apply EvW.fldOwn; exact rfl; exact FldC.eq; (focus ((repeat (first | exact Take.head | apply Take.tail)); done)); omega)))
    | refine WC.seq ?_ | refine WC.region ?_ | refine WL.nil ?_ | refine WE.next ?_ | refine WC.skip ?_ | refine WC.exit ?_ | refine WE.pass ?_ | refine WE.hit ?_ | refine WE.miss rfl ?_ | refine WE.out ?_ | refine WC.condT rfl ?_ | refine WC.condF rfl ?_ | refine WC.ret ?_ | refine WE.passRet ?_ | refine WE.outRet ?_ | refine WL.wanted rfl rfl rfl ?_ | refine WL.unwanted rfl rfl rfl rfl ?_ | refine WL.unwantedU rfl rfl rfl rfl ?_ | refine WL.unwanted0 rfl rfl rfl ?_
  try refine WL.wanted rfl rfl rfl ?_
  apply WL.callA ([.blk b #[i64 3, i64 1] 78])
  · exact rfl
  · exact rfl
  · exact fun w => Try.call19 _ w
  · (focus ((repeat (first | exact TakeL.nil | apply TakeL.cons | exact Take.head | apply Take.tail)); done))
  · exact fun w1 S1 hS1 hs1 ho1 => send_spec b 3 1 7 [120] (F, 0) w1 S1 hS1 (by decide) hm
  rintro _ _ ⟨rfl, rfl⟩
  first | refine WL.app4 ?_ | refine WL.app3 ?_ | refine WL.app2 ?_ | refine WL.app1 ?_ | refine WL.app0 ?_ | skip
  dsimp only
  repeat first
    | (apply WL.q; exact rfl; exact rfl; exact rfl; (first | (apply EvW.move; exact rfl) | (apply EvW.assign; exact rfl) | (apply EvW.nilPtr; exact rfl) | (apply EvW.fieldAddr0; exact rfl; exact FldC.eq) | (apply EvW.fieldAddr; exact rfl; exact FldC.eq) | (apply EvW.extract; exact rfl; exact rfl) | (apply EvW.cmpT; exact rfl; exact rfl; exact rfl; omega) | (apply EvW.cmpF; exact rfl; exact rfl; exact rfl; omega) | (apply EvW.cmp; exact rfl; exact rfl; exact rfl) | (apply EvW.pickT; exact rfl; exact rfl) | (apply EvW.pickF; exact rfl; exact rfl) | (apply EvW.notT; exact rfl) | (apply EvW.notF; exact rfl) | (apply EvW.notP; exact rfl) | (apply EvW.seqS; exact rfl; exact rfl) | (apply EvW.seq; exact rfl; exact rfl) | (apply EvW.peqN; exact rfl; exact rfl; exact UndC.eq) | (apply EvW.fldRow; exact rfl; exact FldC.eq; assumption; omega) | (apply EvW.fldOwn; exact rfl; exact FldC.eq; (focus ((repeat (first | exact Take.head | apply Take.tail)); done)); omega)))
    | refine WC.seq ?_ | refine WC.region ?_ | refine WL.nil ?_ | refine WE.next ?_ | refine WC.skip ?_ | refine WC.exit ?_ | refine WE.pass ?_ | refine WE.hit ?_ | refine WE.miss rfl ?_ | refine WE.out ?_ | refine WC.condT rfl ?_ | refine WC.condF rfl ?_ | refine WC.ret ?_ | refine WE.passRet ?_ | refine WE.outRet ?_ | refine WL.wanted rfl rfl rfl ?_ | refine WL.unwanted rfl rfl rfl rfl ?_ | refine WL.unwantedU rfl rfl rfl rfl ?_ | refine WL.unwanted0 rfl rfl rfl ?_
  try refine WL.wanted rfl rfl rfl ?_
  apply WL.callA ([.blk q #[i64 (Rcv.new 3 2).last, i64 (Rcv.new 3 2).lost, i64 (Rcv.new 3 2).num, i64 (Rcv.new 3 2).peer, i64 (Rcv.new 3 2).age] 44])
  · exact rfl
  · exact rfl
  · exact fun w => Try.call16 _ w
  · (focus ((repeat (first | exact TakeL.nil | apply TakeL.cons | exact Take.head | apply Take.tail)); done))
  · exact fun w1 S1 hS1 hs1 ho1 => ltake_spec q (Rcv.new 3 2) 9 F (Said.mk 3 1 7 [120]) 0 w1 S1 hS1 (by omega) (by decide) (by decide) (by decide) hr
  rintro _ _ ⟨rfl, rfl⟩
  first | refine WL.app4 ?_ | refine WL.app3 ?_ | refine WL.app2 ?_ | refine WL.app1 ?_ | refine WL.app0 ?_ | skip
  rw [t1]
  dsimp only
  repeat first
    | (apply WL.q; exact rfl; exact rfl; exact rfl; (first | (apply EvW.move; exact rfl) | (apply EvW.assign; exact rfl) | (apply EvW.nilPtr; exact rfl) | (apply EvW.fieldAddr0; exact rfl; exact FldC.eq) | (apply EvW.fieldAddr; exact rfl; exact FldC.eq) | (apply EvW.extract; exact rfl; exact rfl) | (apply EvW.cmpT; exact rfl; exact rfl; exact rfl; omega) | (apply EvW.cmpF; exact rfl; exact rfl; exact rfl; omega) | (apply EvW.cmp; exact rfl; exact rfl; exact rfl) | (apply EvW.pickT; exact rfl; exact rfl) | (apply EvW.pickF; exact rfl; exact rfl) | (apply EvW.notT; exact rfl) | (apply EvW.notF; exact rfl) | (apply EvW.notP; exact rfl) | (apply EvW.seqS; exact rfl; exact rfl) | (apply EvW.seq; exact rfl; exact rfl) | (apply EvW.peqN; exact rfl; exact rfl; exact UndC.eq) | (apply EvW.fldRow; exact rfl; exact FldC.eq; assumption; omega) | (apply EvW.fldOwn; exact rfl; exact FldC.eq; (focus ((repeat (first | exact Take.head | apply Take.tail)); done)); omega)))
    | refine WC.seq ?_ | refine WC.region ?_ | refine WL.nil ?_ | refine WE.next ?_ | refine WC.skip ?_ | refine WC.exit ?_ | refine WE.pass ?_ | refine WE.hit ?_ | refine WE.miss rfl ?_ | refine WE.out ?_ | refine WC.condT rfl ?_ | refine WC.condF rfl ?_ | refine WC.ret ?_ | refine WE.passRet ?_ | refine WE.outRet ?_ | refine WL.wanted rfl rfl rfl ?_ | refine WL.unwanted rfl rfl rfl rfl ?_ | refine WL.unwantedU rfl rfl rfl rfl ?_ | refine WL.unwanted0 rfl rfl rfl ?_
  try refine WL.wanted rfl rfl rfl ?_
  apply WL.callA ([.blk q #[i64 (Rcv.mk 7 0 1 3 2).last, i64 (Rcv.mk 7 0 1 3 2).lost, i64 (Rcv.mk 7 0 1 3 2).num, i64 (Rcv.mk 7 0 1 3 2).peer, i64 (Rcv.mk 7 0 1 3 2).age] 44])
  · exact rfl
  · exact rfl
  · exact fun w => Try.call16 _ w
  · (focus ((repeat (first | exact TakeL.nil | apply TakeL.cons | exact Take.head | apply Take.tail)); done))
  · exact fun w1 S1 hS1 hs1 ho1 => ltake_spec q (Rcv.mk 7 0 1 3 2) 9 F (Said.mk 3 1 7 [120]) 0 w1 S1 hS1 (by omega) (by decide) (by decide) (by decide) hr
  rintro _ _ ⟨rfl, rfl⟩
  first | refine WL.app4 ?_ | refine WL.app3 ?_ | refine WL.app2 ?_ | refine WL.app1 ?_ | refine WL.app0 ?_ | skip
  rw [t2]
  dsimp only
  repeat first
    | (apply WL.q; exact rfl; exact rfl; exact rfl; (first | (apply EvW.move; exact rfl) | (apply EvW.assign; exact rfl) | (apply EvW.nilPtr; exact rfl) | (apply EvW.fieldAddr0; exact rfl; exact FldC.eq) | (apply EvW.fieldAddr; exact rfl; exact FldC.eq) | (apply EvW.extract; exact rfl; exact rfl) | (apply EvW.cmpT; exact rfl; exact rfl; exact rfl; omega) | (apply EvW.cmpF; exact rfl; exact rfl; exact rfl; omega) | (apply EvW.cmp; exact rfl; exact rfl; exact rfl) | (apply EvW.pickT; exact rfl; exact rfl) | (apply EvW.pickF; exact rfl; exact rfl) | (apply EvW.notT; exact rfl) | (apply EvW.notF; exact rfl) | (apply EvW.notP; exact rfl) | (apply EvW.seqS; exact rfl; exact rfl) | (apply EvW.seq; exact rfl; exact rfl) | (apply EvW.peqN; exact rfl; exact rfl; exact UndC.eq) | (apply EvW.fldRow; exact rfl; exact FldC.eq; assumption; omega) | (apply EvW.fldOwn; exact rfl; exact FldC.eq; (focus ((repeat (first | exact Take.head | apply Take.tail)); done)); omega)))
    | refine WC.seq ?_ | refine WC.region ?_ | refine WL.nil ?_ | refine WE.next ?_ | refine WC.skip ?_ | refine WC.exit ?_ | refine WE.pass ?_ | refine WE.hit ?_ | refine WE.miss rfl ?_ | refine WE.out ?_ | refine WC.condT rfl ?_ | refine WC.condF rfl ?_ | refine WC.ret ?_ | refine WE.passRet ?_ | refine WE.outRet ?_ | refine WL.wanted rfl rfl rfl ?_ | refine WL.unwanted rfl rfl rfl rfl ?_ | refine WL.unwantedU rfl rfl rfl rfl ?_ | refine WL.unwanted0 rfl rfl rfl ?_
  try refine WL.wanted rfl rfl rfl ?_
  apply WL.callA ([.blk q #[i64 (Rcv.mk 7 0 1 3 2).last, i64 (Rcv.mk 7 0 1 3 2).lost, i64 (Rcv.mk 7 0 1 3 2).num, i64 (Rcv.mk 7 0 1 3 2).peer, i64 (Rcv.mk 7 0 1 3 2).age] 44])
  · exact rfl
  · exact rfl
  · exact fun w => Try.call20 _ w
  · (focus ((repeat (first | exact TakeL.nil | apply TakeL.cons | exact Take.head | apply Take.tail)); done))
  · exact fun w1 S1 hS1 hs1 ho1 => alive_spec q (Rcv.mk 7 0 1 3 2) 9 w1 S1 hS1 (by decide)
  rintro _ _ ⟨rfl, rfl⟩
  first | refine WL.app4 ?_ | refine WL.app3 ?_ | refine WL.app2 ?_ | refine WL.app1 ?_ | refine WL.app0 ?_ | skip
  rw [show aliveF (Rcv.mk 7 0 1 3 2) 9 = true from rfl]
  repeat first
    | (apply WL.q; exact rfl; exact rfl; exact rfl; (first | (apply EvW.move; exact rfl) | (apply EvW.assign; exact rfl) | (apply EvW.nilPtr; exact rfl) | (apply EvW.fieldAddr0; exact rfl; exact FldC.eq) | (apply EvW.fieldAddr; exact rfl; exact FldC.eq) | (apply EvW.extract; exact rfl; exact rfl) | (apply EvW.cmpT; exact rfl; exact rfl; exact rfl; omega) | (apply EvW.cmpF; exact rfl; exact rfl; exact rfl; omega) | (apply EvW.cmp; exact rfl; exact rfl; exact rfl) | (apply EvW.pickT; exact rfl; exact rfl) | (apply EvW.pickF; exact rfl; exact rfl) | (apply EvW.notT; exact rfl) | (apply EvW.notF; exact rfl) | (apply EvW.notP; exact rfl) | (apply EvW.seqS; exact rfl; exact rfl) | (apply EvW.seq; exact rfl; exact rfl) | (apply EvW.peqN; exact rfl; exact rfl; exact UndC.eq) | (apply EvW.fldRow; exact rfl; exact FldC.eq; assumption; omega) | (apply EvW.fldOwn; exact rfl; exact FldC.eq; (focus ((repeat (first | exact Take.head | apply Take.tail)); done)); omega)))
    | refine WC.seq ?_ | refine WC.region ?_ | refine WL.nil ?_ | refine WE.next ?_ | refine WC.skip ?_ | refine WC.exit ?_ | refine WE.pass ?_ | refine WE.hit ?_ | refine WE.miss rfl ?_ | refine WE.out ?_ | refine WC.condT rfl ?_ | refine WC.condF rfl ?_ | refine WC.ret ?_ | refine WE.passRet ?_ | refine WE.outRet ?_ | refine WL.wanted rfl rfl rfl ?_ | refine WL.unwanted rfl rfl rfl rfl ?_ | refine WL.unwantedU rfl rfl rfl rfl ?_ | refine WL.unwanted0 rfl rfl rfl ?_
  try refine WL.wanted rfl rfl rfl ?_
  apply WL.callA ([.blk q #[i64 (Rcv.mk 7 0 1 3 2).last, i64 (Rcv.mk 7 0 1 3 2).lost, i64 (Rcv.mk 7 0 1 3 2).num, i64 (Rcv.mk 7 0 1 3 2).peer, i64 (Rcv.mk 7 0 1 3 2).age] 44])
  · exact rfl
  · exact rfl
  · exact fun w => Try.call20 _ w
  · (focus ((repeat (first | exact TakeL.nil | apply TakeL.cons | exact Take.head | apply Take.tail)); done))
  · exact fun w1 S1 hS1 hs1 ho1 => alive_spec q (Rcv.mk 7 0 1 3 2) 10 w1 S1 hS1 (by decide)
  rintro _ _ ⟨rfl, rfl⟩
  first | refine WL.app4 ?_ | refine WL.app3 ?_ | refine WL.app2 ?_ | refine WL.app1 ?_ | refine WL.app0 ?_ | skip
  rw [show aliveF (Rcv.mk 7 0 1 3 2) 10 = false from rfl]
  repeat first
    | (apply WL.q; exact rfl; exact rfl; exact rfl; (first | (apply EvW.move; exact rfl) | (apply EvW.assign; exact rfl) | (apply EvW.nilPtr; exact rfl) | (apply EvW.fieldAddr0; exact rfl; exact FldC.eq) | (apply EvW.fieldAddr; exact rfl; exact FldC.eq) | (apply EvW.extract; exact rfl; exact rfl) | (apply EvW.cmpT; exact rfl; exact rfl; exact rfl; omega) | (apply EvW.cmpF; exact rfl; exact rfl; exact rfl; omega) | (apply EvW.cmp; exact rfl; exact rfl; exact rfl) | (apply EvW.pickT; exact rfl; exact rfl) | (apply EvW.pickF; exact rfl; exact rfl) | (apply EvW.notT; exact rfl) | (apply EvW.notF; exact rfl) | (apply EvW.notP; exact rfl) | (apply EvW.seqS; exact rfl; exact rfl) | (apply EvW.seq; exact rfl; exact rfl) | (apply EvW.peqN; exact rfl; exact rfl; exact UndC.eq) | (apply EvW.fldRow; exact rfl; exact FldC.eq; assumption; omega) | (apply EvW.fldOwn; exact rfl; exact FldC.eq; (focus ((repeat (first | exact Take.head | apply Take.tail)); done)); omega)))
    | refine WC.seq ?_ | refine WC.region ?_ | refine WL.nil ?_ | refine WE.next ?_ | refine WC.skip ?_ | refine WC.exit ?_ | refine WE.pass ?_ | refine WE.hit ?_ | refine WE.miss rfl ?_ | refine WE.out ?_ | refine WC.condT rfl ?_ | refine WC.condF rfl ?_ | refine WC.ret ?_ | refine WE.passRet ?_ | refine WE.outRet ?_ | refine WL.wanted rfl rfl rfl ?_ | refine WL.unwanted rfl rfl rfl rfl ?_ | refine WL.unwantedU rfl rfl rfl rfl ?_ | refine WL.unwanted0 rfl rfl rfl ?_
  try refine WL.wanted rfl rfl rfl ?_
  apply WL.callA ([.blk q #[i64 (Rcv.mk 7 0 1 3 2).last, i64 (Rcv.mk 7 0 1 3 2).lost, i64 (Rcv.mk 7 0 1 3 2).num, i64 (Rcv.mk 7 0 1 3 2).peer, i64 (Rcv.mk 7 0 1 3 2).age] 44])
  · exact rfl
  · exact rfl
  · exact fun w => Try.call17 _ w
  · (focus ((repeat (first | exact TakeL.nil | apply TakeL.cons | exact Take.head | apply Take.tail)); done))
  · exact fun w1 S1 hS1 hs1 ho1 => last_spec q (Rcv.mk 7 0 1 3 2) w1 S1 hS1
  rintro _ _ ⟨rfl, rfl⟩
  first | refine WL.app4 ?_ | refine WL.app3 ?_ | refine WL.app2 ?_ | refine WL.app1 ?_ | refine WL.app0 ?_ | skip
  repeat first
    | (apply WL.q; exact rfl; exact rfl; exact rfl; (first | (apply EvW.move; exact rfl) | (apply EvW.assign; exact rfl) | (apply EvW.nilPtr; exact rfl) | (apply EvW.fieldAddr0; exact rfl; exact FldC.eq) | (apply EvW.fieldAddr; exact rfl; exact FldC.eq) | (apply EvW.extract; exact rfl; exact rfl) | (apply EvW.cmpT; exact rfl; exact rfl; exact rfl; omega) | (apply EvW.cmpF; exact rfl; exact rfl; exact rfl; omega) | (apply EvW.cmp; exact rfl; exact rfl; exact rfl) | (apply EvW.pickT; exact rfl; exact rfl) | (apply EvW.pickF; exact rfl; exact rfl) | (apply EvW.notT; exact rfl) | (apply EvW.notF; exact rfl) | (apply EvW.notP; exact rfl) | (apply EvW.seqS; exact rfl; exact rfl) | (apply EvW.seq; exact rfl; exact rfl) | (apply EvW.peqN; exact rfl; exact rfl; exact UndC.eq) | (apply EvW.fldRow; exact rfl; exact FldC.eq; assumption; omega) | (apply EvW.fldOwn; exact rfl; exact FldC.eq; (focus ((repeat (first | exact Take.head | apply Take.tail)); done)); omega)))
    | refine WC.seq ?_ | refine WC.region ?_ | refine WL.nil ?_ | refine WE.next ?_ | refine WC.skip ?_ | refine WC.exit ?_ | refine WE.pass ?_ | refine WE.hit ?_ | refine WE.miss rfl ?_ | refine WE.out ?_ | refine WC.condT rfl ?_ | refine WC.condF rfl ?_ | refine WC.ret ?_ | refine WE.passRet ?_ | refine WE.outRet ?_ | refine WL.wanted rfl rfl rfl ?_ | refine WL.unwanted rfl rfl rfl rfl ?_ | refine WL.unwantedU rfl rfl rfl rfl ?_ | refine WL.unwanted0 rfl rfl rfl ?_
  refine WE.bare ?_
  refine WE.ret1 rfl rfl ?_
  exact ⟨rfl, rfl⟩
end Go.Proofs.Ytgcpoehchohleaa
