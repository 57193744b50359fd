/- What seal does: frames found, and opened. -/
import Derived.Test.YtgcpoehchohleaaSealB
namespace Go.Proofs.Ytgcpoehchohleaa
open Go.RowKit Go.BK

/-- What a frame says, if its sum is right. -/
def bodyF (f : List UInt8) (a : Int) : List UInt8 × Int × Int := if numOf (f.drop (f.length - 4)) ≠ (crc (f.take (f.length - 4))).toNat then ([], 0, 4) else ((f.take (f.length - 4)).drop 2, a + f.length, 0)
def nextF (l : List UInt8) (a : Int) : List UInt8 × Int × Int :=
  if a < 0 ∨ a > l.length then ([], 0, 20) else if (cutF (l.drop a.toNat)).2 ≠ 0 then ([], 0, (cutF (l.drop a.toNat)).2) else bodyF ((l.drop a.toNat).take (cutF (l.drop a.toNat)).1.toNat) a
def openF (l : List UInt8) : List UInt8 × Int := if (cutF l).2 ≠ 0 then ([], (cutF l).2) else if (cutF l).1 < l.length then ([], 3) else ((nextF l 0).1, (nextF l 0).2.2)
theorem cutF_cases (l : List UInt8) : (cutF l = (0, 1)) ∨ (cutF l = (0, 2)) ∨ ∃ k : Nat, cutF l = ((k : Int), 0) ∧ 6 ≤ k ∧ k ≤ l.length ∧ k ≤ 1030 ∧ numOf (l.take 2) = (k : Int) - 6 := by
  unfold cutF
  split
  · exact .inl rfl
  · split
    · exact .inr (.inl rfl)
    · split
      · exact .inl rfl
      · have h := numOf_bd (l.take 2)
        exact .inr (.inr ⟨(numOf (l.take 2) + 6).toNat, by rw [Int.toNat_of_nonneg (by omega)], by omega, by omega, by omega, by omega⟩)
theorem next_spec (l : List UInt8) (a : Int) (w : World) (S : BSet) (hS : (sepL []).sat S w) (hl : l.length ≤ 1152921504606846976) :
    Tri Try.prog 56 #[str l, i64 a] w S fun u A => u = .tuple #[str (nextF l a).1, i64 (nextF l a).2.1, i64 (nextF l a).2.2] ∧ A = [] := by
  refine Tri.enter (l := [str l, i64 a]) Try.func56 rfl Try.ntmps56 rfl [(0, str l), (1, i64 a)] (subA rfl) hS ?_
  by_cases ha0 : a < 0
  · have hF : nextF l a = ([], 0, 20) := by unfold nextF; rw [if_pos (.inl ha0)]
    rw [hF]
    repeat first
      | (apply WL.q; exact rfl; exact rfl; exact rfl; (first | (apply EvW.move; exact rfl) | (apply EvW.assign; exact rfl) | (apply EvW.extract; exact rfl; exact rfl) | (apply EvW.lenS; exact rfl; exact UndC.eq) | (apply EvW.cmpT; exact rfl; exact rfl; exact rfl; omega) | (apply EvW.cmpF; exact rfl; exact rfl; exact rfl; omega) | (apply EvW.cmp; exact rfl; exact rfl; exact rfl) | (apply EvW.arN; exact rfl; exact rfl; exact rfl; refine i64_in ?_ ?_ <;> omega) | (apply EvW.ar; exact rfl; exact rfl; exact rfl) | (apply EvW.pickT; exact rfl; exact rfl) | (apply EvW.pickF; exact rfl; exact rfl) | (apply EvW.sliceS; exact rfl; exact UndC.eq; exact rfl; exact rfl; omega; omega; omega) | (apply EvW.sliceS_lo; exact rfl; exact UndC.eq; exact rfl; omega; omega) | (apply EvW.sliceS_hi; exact rfl; exact UndC.eq; exact rfl; omega; omega)))
      | refine WC.seq ?_ | refine WC.region ?_ | refine WL.nil ?_ | refine WE.next ?_ | refine WC.skip ?_ | refine WC.exit ?_ | refine WE.pass ?_ | refine WE.hit ?_ | refine WE.miss rfl ?_ | refine WE.out ?_ | refine WC.condT rfl ?_ | refine WC.condF rfl ?_ | refine WC.ret ?_ | refine WE.passRet ?_ | refine WE.outRet ?_ | refine WL.wanted rfl rfl rfl ?_ | refine WL.unwanted rfl rfl rfl rfl ?_ | refine WL.unwantedU rfl rfl rfl rfl ?_ | refine WL.unwanted0 rfl rfl rfl ?_
    refine WE.retN (l := [4, 5, 6]) rfl rfl rfl ?_
    exact ⟨rfl, rfl⟩
  · by_cases ha1 : a > l.length
    · have hF : nextF l a = ([], 0, 20) := by unfold nextF; rw [if_pos (.inr ha1)]
      rw [hF]
      repeat first
        | (apply WL.q; exact rfl; exact rfl; exact rfl; (first | (apply EvW.move; exact rfl) | (apply EvW.assign; exact rfl) | (apply EvW.extract; exact rfl; exact rfl) | (apply EvW.lenS; exact rfl; exact UndC.eq) | (apply EvW.cmpT; exact rfl; exact rfl; exact rfl; omega) | (apply EvW.cmpF; exact rfl; exact rfl; exact rfl; omega) | (apply EvW.cmp; exact rfl; exact rfl; exact rfl) | (apply EvW.arN; exact rfl; exact rfl; exact rfl; refine i64_in ?_ ?_ <;> omega) | (apply EvW.ar; exact rfl; exact rfl; exact rfl) | (apply EvW.pickT; exact rfl; exact rfl) | (apply EvW.pickF; exact rfl; exact rfl) | (apply EvW.sliceS; exact rfl; exact UndC.eq; exact rfl; exact rfl; omega; omega; omega) | (apply EvW.sliceS_lo; exact rfl; exact UndC.eq; exact rfl; omega; omega) | (apply EvW.sliceS_hi; exact rfl; exact UndC.eq; exact rfl; omega; omega)))
        | refine WC.seq ?_ | refine WC.region ?_ | refine WL.nil ?_ | refine WE.next ?_ | refine WC.skip ?_ | refine WC.exit ?_ | refine WE.pass ?_ | refine WE.hit ?_ | refine WE.miss rfl ?_ | refine WE.out ?_ | refine WC.condT rfl ?_ | refine WC.condF rfl ?_ | refine WC.ret ?_ | refine WE.passRet ?_ | refine WE.outRet ?_ | refine WL.wanted rfl rfl rfl ?_ | refine WL.unwanted rfl rfl rfl rfl ?_ | refine WL.unwantedU rfl rfl rfl rfl ?_ | refine WL.unwanted0 rfl rfl rfl ?_
      refine WE.retN (l := [4, 5, 6]) rfl rfl rfl ?_
      exact ⟨rfl, rfl⟩
    · have hF : nextF l a = if (cutF (l.drop a.toNat)).2 ≠ 0 then ([], 0, (cutF (l.drop a.toNat)).2) else bodyF ((l.drop a.toNat).take (cutF (l.drop a.toNat)).1.toNat) a := by
        unfold nextF; rw [if_neg (by omega)]
      rw [hF]
      have hdl : (l.drop a.toNat).length = l.length - a.toNat := by simp
      repeat first
        | (apply WL.q; exact rfl; exact rfl; exact rfl; (first | (apply EvW.move; exact rfl) | (apply EvW.assign; exact rfl) | (apply EvW.extract; exact rfl; exact rfl) | (apply EvW.lenS; exact rfl; exact UndC.eq) | (apply EvW.cmpT; exact rfl; exact rfl; exact rfl; omega) | (apply EvW.cmpF; exact rfl; exact rfl; exact rfl; omega) | (apply EvW.cmp; exact rfl; exact rfl; exact rfl) | (apply EvW.arN; exact rfl; exact rfl; exact rfl; refine i64_in ?_ ?_ <;> omega) | (apply EvW.ar; exact rfl; exact rfl; exact rfl) | (apply EvW.pickT; exact rfl; exact rfl) | (apply EvW.pickF; exact rfl; exact rfl) | (apply EvW.sliceS; exact rfl; exact UndC.eq; exact rfl; exact rfl; omega; omega; omega) | (apply EvW.sliceS_lo; exact rfl; exact UndC.eq; exact rfl; omega; omega) | (apply EvW.sliceS_hi; exact rfl; exact UndC.eq; exact rfl; omega; omega)))
        | refine WC.seq ?_ | refine WC.region ?_ | refine WL.nil ?_ | refine WE.next ?_ | refine WC.skip ?_ | refine WC.exit ?_ | refine WE.pass ?_ | refine WE.hit ?_ | refine WE.miss rfl ?_ | refine WE.out ?_ | refine WC.condT rfl ?_ | refine WC.condF rfl ?_ | refine WC.ret ?_ | refine WE.passRet ?_ | refine WE.outRet ?_ | refine WL.wanted rfl rfl rfl ?_ | refine WL.unwanted rfl rfl rfl rfl ?_ | refine WL.unwantedU rfl rfl rfl rfl ?_ | refine WL.unwanted0 rfl rfl rfl ?_
      try refine WL.wanted rfl rfl rfl ?_
      apply WL.callT
      · exact rfl
      · exact rfl
      · exact fun w1 S1 hS1 hs1 ho1 => cut_spec (l.drop a.toNat) w1 S1 hS1 (by omega)
      · exact fun w => Try.call55 _ w
      · (focus ((repeat (first | exact TakeL.nil | apply TakeL.cons | exact Take.head | apply Take.tail)); done))
      rintro _ _ ⟨rfl, rfl⟩
      first | refine WL.app4 ?_ | refine WL.app3 ?_ | refine WL.app2 ?_ | refine WL.app1 ?_ | refine WL.app0 ?_ | skip
      have hcc := cutF_cases (l.drop a.toNat)
      by_cases he : (cutF (l.drop a.toNat)).2 = 0
      · rcases hcc with hc | hc | ⟨k, hc, h6, hk, _, _⟩
        · rw [hc] at he; cases he
        · rw [hc] at he; cases he
        · rw [hc]
          rw [if_neg (by simp)]
          repeat first
            | (apply WL.q; exact rfl; exact rfl; exact rfl; (first | (apply EvW.move; exact rfl) | (apply EvW.assign; exact rfl) | (apply EvW.extract; exact rfl; exact rfl) | (apply EvW.lenS; exact rfl; exact UndC.eq) | (apply EvW.cmpT; exact rfl; exact rfl; exact rfl; omega) | (apply EvW.cmpF; exact rfl; exact rfl; exact rfl; omega) | (apply EvW.cmp; exact rfl; exact rfl; exact rfl) | (apply EvW.arN; exact rfl; exact rfl; exact rfl; refine i64_in ?_ ?_ <;> omega) | (apply EvW.ar; exact rfl; exact rfl; exact rfl) | (apply EvW.pickT; exact rfl; exact rfl) | (apply EvW.pickF; exact rfl; exact rfl) | (apply EvW.sliceS; exact rfl; exact UndC.eq; exact rfl; exact rfl; omega; omega; omega) | (apply EvW.sliceS_lo; exact rfl; exact UndC.eq; exact rfl; omega; omega) | (apply EvW.sliceS_hi; exact rfl; exact UndC.eq; exact rfl; omega; omega)))
            | refine WC.seq ?_ | refine WC.region ?_ | refine WL.nil ?_ | refine WE.next ?_ | refine WC.skip ?_ | refine WC.exit ?_ | refine WE.pass ?_ | refine WE.hit ?_ | refine WE.miss rfl ?_ | refine WE.out ?_ | refine WC.condT rfl ?_ | refine WC.condF rfl ?_ | refine WC.ret ?_ | refine WE.passRet ?_ | refine WE.outRet ?_ | refine WL.wanted rfl rfl rfl ?_ | refine WL.unwanted rfl rfl rfl rfl ?_ | refine WL.unwantedU rfl rfl rfl rfl ?_ | refine WL.unwanted0 rfl rfl rfl ?_
          have htk : (l.drop a.toNat).take (k : Int).toNat = (l.take (a + k).toNat).drop a.toNat := by
            rw [show (a + (k : Int)).toNat = a.toNat + k by omega, List.drop_take, Nat.add_sub_cancel_left]; rfl
          rw [htk]
          have hfl : ((l.take (a + k).toNat).drop a.toNat).length = k := by rw [← htk]; simp; omega
          generalize (l.take (a + k).toNat).drop a.toNat = f at hfl
          repeat refine WC.seq ?_
          refine WC.keep (xs := []) (by (focus ((repeat (first | exact TakeL.nil | apply TakeL.cons | exact Take.head | apply Take.tail)); done))) ?_
          apply WC.par _ (fun c : Ch => [.blk (c 4).1 #[i64 (PR.mk 0 (f.drop ((k : Int) - 4).toNat)).e, str (PR.mk 0 (f.drop ((k : Int) - 4).toNat)).s] 98, .blk (c 4).1 #[i64 (((PR.mk 0 (f.drop ((k : Int) - 4).toNat)).num 4).2).e, str (((PR.mk 0 (f.drop ((k : Int) - 4).toNat)).num 4).2).s] 98, .blk (c 10).1 #[str (f.take ((k : Int) - 4).toNat)] 9]) [some 4, some 5, some 10] [some 5, none, none] [(4, fun x => ptr x.1 0), (10, fun x => .slice (some ⟨x.1, 0, none⟩) 1 1)] Try.mixed
          · (focus ((repeat (first | exact Restr.nil | (apply Restr.keep; exact rfl; exact rfl) | (apply Restr.drop; exact rfl))); done))
          · intro c; exact (by (focus ((repeat (first | exact SelT.nil | apply SelT.yes | apply SelT.no)); done)))
          · exact rfl
          · decide +kernel
          · decide +kernel
          · intro c
            (apply Par.quiet _ [false, false, false]; exact rfl; decide +kernel; exact rfl; intro R; refine ⟨_, (by (focus ((repeat (first | exact SelT.nil | apply SelT.yes | apply SelT.no)); done))), ?_⟩;
                 (first | (apply EvW.move; exact rfl) | (apply EvW.assign; exact rfl) | (apply EvW.extract; exact rfl; exact rfl) | (apply EvW.lenS; exact rfl; exact UndC.eq) | (apply EvW.cmpT; exact rfl; exact rfl; exact rfl; omega) | (apply EvW.cmpF; exact rfl; exact rfl; exact rfl; omega) | (apply EvW.cmp; exact rfl; exact rfl; exact rfl) | (apply EvW.arN; exact rfl; exact rfl; exact rfl; refine i64_in ?_ ?_ <;> omega) | (apply EvW.ar; exact rfl; exact rfl; exact rfl) | (apply EvW.pickT; exact rfl; exact rfl) | (apply EvW.pickF; exact rfl; exact rfl) | (apply EvW.sliceS; exact rfl; exact UndC.eq; exact rfl; exact rfl; omega; omega; omega) | (apply EvW.sliceS_lo; exact rfl; exact UndC.eq; exact rfl; omega; omega) | (apply EvW.sliceS_hi; exact rfl; exact UndC.eq; exact rfl; omega; omega)))
            (apply Par.quiet _ [false, false, false]; exact rfl; decide +kernel; exact rfl; intro R; refine ⟨_, (by (focus ((repeat (first | exact SelT.nil | apply SelT.yes | apply SelT.no)); done))), ?_⟩;
                 (first | (apply EvW.move; exact rfl) | (apply EvW.assign; exact rfl) | (apply EvW.extract; exact rfl; exact rfl) | (apply EvW.lenS; exact rfl; exact UndC.eq) | (apply EvW.cmpT; exact rfl; exact rfl; exact rfl; omega) | (apply EvW.cmpF; exact rfl; exact rfl; exact rfl; omega) | (apply EvW.cmp; exact rfl; exact rfl; exact rfl) | (apply EvW.arN; exact rfl; exact rfl; exact rfl; refine i64_in ?_ ?_ <;> omega) | (apply EvW.ar; exact rfl; exact rfl; exact rfl) | (apply EvW.pickT; exact rfl; exact rfl) | (apply EvW.pickF; exact rfl; exact rfl) | (apply EvW.sliceS; exact rfl; exact UndC.eq; exact rfl; exact rfl; omega; omega; omega) | (apply EvW.sliceS_lo; exact rfl; exact UndC.eq; exact rfl; omega; omega) | (apply EvW.sliceS_hi; exact rfl; exact UndC.eq; exact rfl; omega; omega)))
            (apply Par.quiet _ [false, false, false]; exact rfl; decide +kernel; exact rfl; intro R; refine ⟨_, (by (focus ((repeat (first | exact SelT.nil | apply SelT.yes | apply SelT.no)); done))), ?_⟩;
                 (first | (apply EvW.move; exact rfl) | (apply EvW.assign; exact rfl) | (apply EvW.extract; exact rfl; exact rfl) | (apply EvW.lenS; exact rfl; exact UndC.eq) | (apply EvW.cmpT; exact rfl; exact rfl; exact rfl; omega) | (apply EvW.cmpF; exact rfl; exact rfl; exact rfl; omega) | (apply EvW.cmp; exact rfl; exact rfl; exact rfl) | (apply EvW.arN; exact rfl; exact rfl; exact rfl; refine i64_in ?_ ?_ <;> omega) | (apply EvW.ar; exact rfl; exact rfl; exact rfl) | (apply EvW.pickT; exact rfl; exact rfl) | (apply EvW.pickF; exact rfl; exact rfl) | (apply EvW.sliceS; exact rfl; exact UndC.eq; exact rfl; exact rfl; omega; omega; omega) | (apply EvW.sliceS_lo; exact rfl; exact UndC.eq; exact rfl; omega; omega) | (apply EvW.sliceS_hi; exact rfl; exact UndC.eq; exact rfl; omega; omega)))
            (apply Par.quiet _ [false, false, false]; exact rfl; decide +kernel; exact rfl; intro R; refine ⟨_, (by (focus ((repeat (first | exact SelT.nil | apply SelT.yes | apply SelT.no)); done))), ?_⟩;
                 (first | (apply EvW.move; exact rfl) | (apply EvW.assign; exact rfl) | (apply EvW.extract; exact rfl; exact rfl) | (apply EvW.lenS; exact rfl; exact UndC.eq) | (apply EvW.cmpT; exact rfl; exact rfl; exact rfl; omega) | (apply EvW.cmpF; exact rfl; exact rfl; exact rfl; omega) | (apply EvW.cmp; exact rfl; exact rfl; exact rfl) | (apply EvW.arN; exact rfl; exact rfl; exact rfl; refine i64_in ?_ ?_ <;> omega) | (apply EvW.ar; exact rfl; exact rfl; exact rfl) | (apply EvW.pickT; exact rfl; exact rfl) | (apply EvW.pickF; exact rfl; exact rfl) | (apply EvW.sliceS; exact rfl; exact UndC.eq; exact rfl; exact rfl; omega; omega; omega) | (apply EvW.sliceS_lo; exact rfl; exact UndC.eq; exact rfl; omega; omega) | (apply EvW.sliceS_hi; exact rfl; exact UndC.eq; exact rfl; omega; omega)))
            apply Par.new _ [false, false, false] [true, false, false] [false, false, false]
            · exact rfl
            · exact rfl
            · decide +kernel
            · intro R
              refine ⟨_, _, _, (by (focus ((repeat (first | exact SelT.nil | apply SelT.yes | apply SelT.no)); done))), (by (focus ((repeat (first | exact SelT.nil | apply SelT.yes | apply SelT.no)); done))), (fun x => (by (focus ((repeat (first | exact SelT.nil | apply SelT.yes | apply SelT.no)); done)))), ?_⟩
              apply NewW.call (fun x => [.blk x.1 #[i64 (PR.mk 0 (f.drop ((k : Int) - 4).toNat)).e, str (PR.mk 0 (f.drop ((k : Int) - 4).toNat)).s] 98])
              · exact rfl
              · exact fun w1 S1 hS1 hs1 ho1 => read_spec (f.drop ((k : Int) - 4).toNat) w1 S1 hS1
              · exact fun w => Try.call37 _ w
              · (focus ((repeat (first | exact TakeL.nil | apply TakeL.cons | exact Take.head | apply Take.tail)); done))
              · rintro _ _ ⟨b, rfl, rfl⟩; exact ⟨(b, undef), rfl, rfl⟩
              · exact fun x _ h => TakeT.st (by (focus ((repeat (first | exact TakeT.tail | apply TakeT.cons | exact Take.head | apply Take.tail | apply TakeT.drop)); done))) h
            apply Par.eff _ [true, false, false] [false, true, false] [false, false, false]
            · exact rfl
            · exact rfl
            · decide +kernel
            · intro R
              refine ⟨_, _, _, (by (focus ((repeat (first | exact SelT.nil | apply SelT.yes | apply SelT.no)); done))), (by (focus ((repeat (first | exact SelT.nil | apply SelT.yes | apply SelT.no)); done))), (by (focus ((repeat (first | exact SelT.nil | apply SelT.yes | apply SelT.no)); done))), ?_⟩
              apply EffW.callT
              · exact rfl
              · exact fun w1 S1 hS1 hs1 ho1 => rlong_spec _ (PR.mk 0 (f.drop ((k : Int) - 4).toNat)) w1 S1 hS1 (by simp; omega)
              · exact fun w => Try.call40 _ w
              · (focus ((repeat (first | exact TakeL.nil | apply TakeL.cons | exact Take.head | apply Take.tail)); done))
              · exact fun _ _ h => h
              · exact fun _ h => TakeT.st (by (focus ((repeat (first | exact TakeT.tail | apply TakeT.cons | exact Take.head | apply Take.tail | apply TakeT.drop)); done))) h
            (apply Par.quiet _ [false, false, false]; exact rfl; decide +kernel; exact rfl; intro R; refine ⟨_, (by (focus ((repeat (first | exact SelT.nil | apply SelT.yes | apply SelT.no)); done))), ?_⟩;
                 (first | (apply EvW.move; exact rfl) | (apply EvW.assign; exact rfl) | (apply EvW.extract; exact rfl; exact rfl) | (apply EvW.lenS; exact rfl; exact UndC.eq) | (apply EvW.cmpT; exact rfl; exact rfl; exact rfl; omega) | (apply EvW.cmpF; exact rfl; exact rfl; exact rfl; omega) | (apply EvW.cmp; exact rfl; exact rfl; exact rfl) | (apply EvW.arN; exact rfl; exact rfl; exact rfl; refine i64_in ?_ ?_ <;> omega) | (apply EvW.ar; exact rfl; exact rfl; exact rfl) | (apply EvW.pickT; exact rfl; exact rfl) | (apply EvW.pickF; exact rfl; exact rfl) | (apply EvW.sliceS; exact rfl; exact UndC.eq; exact rfl; exact rfl; omega; omega; omega) | (apply EvW.sliceS_lo; exact rfl; exact UndC.eq; exact rfl; omega; omega) | (apply EvW.sliceS_hi; exact rfl; exact UndC.eq; exact rfl; omega; omega)))
            (apply Par.quiet _ [false, false, false]; exact rfl; decide +kernel; exact rfl; intro R; refine ⟨_, (by (focus ((repeat (first | exact SelT.nil | apply SelT.yes | apply SelT.no)); done))), ?_⟩;
                 (first | (apply EvW.move; exact rfl) | (apply EvW.assign; exact rfl) | (apply EvW.extract; exact rfl; exact rfl) | (apply EvW.lenS; exact rfl; exact UndC.eq) | (apply EvW.cmpT; exact rfl; exact rfl; exact rfl; omega) | (apply EvW.cmpF; exact rfl; exact rfl; exact rfl; omega) | (apply EvW.cmp; exact rfl; exact rfl; exact rfl) | (apply EvW.arN; exact rfl; exact rfl; exact rfl; refine i64_in ?_ ?_ <;> omega) | (apply EvW.ar; exact rfl; exact rfl; exact rfl) | (apply EvW.pickT; exact rfl; exact rfl) | (apply EvW.pickF; exact rfl; exact rfl) | (apply EvW.sliceS; exact rfl; exact UndC.eq; exact rfl; exact rfl; omega; omega; omega) | (apply EvW.sliceS_lo; exact rfl; exact UndC.eq; exact rfl; omega; omega) | (apply EvW.sliceS_hi; exact rfl; exact UndC.eq; exact rfl; omega; omega)))
            (apply Par.quiet _ [false, false, false]; exact rfl; decide +kernel; exact rfl; intro R; refine ⟨_, (by (focus ((repeat (first | exact SelT.nil | apply SelT.yes | apply SelT.no)); done))), ?_⟩;
                 (first | (apply EvW.move; exact rfl) | (apply EvW.assign; exact rfl) | (apply EvW.extract; exact rfl; exact rfl) | (apply EvW.lenS; exact rfl; exact UndC.eq) | (apply EvW.cmpT; exact rfl; exact rfl; exact rfl; omega) | (apply EvW.cmpF; exact rfl; exact rfl; exact rfl; omega) | (apply EvW.cmp; exact rfl; exact rfl; exact rfl) | (apply EvW.arN; exact rfl; exact rfl; exact rfl; refine i64_in ?_ ?_ <;> omega) | (apply EvW.ar; exact rfl; exact rfl; exact rfl) | (apply EvW.pickT; exact rfl; exact rfl) | (apply EvW.pickF; exact rfl; exact rfl) | (apply EvW.sliceS; exact rfl; exact UndC.eq; exact rfl; exact rfl; omega; omega; omega) | (apply EvW.sliceS_lo; exact rfl; exact UndC.eq; exact rfl; omega; omega) | (apply EvW.sliceS_hi; exact rfl; exact UndC.eq; exact rfl; omega; omega)))
            (apply Par.quiet _ [false, false, false]; exact rfl; decide +kernel; exact rfl; intro R; refine ⟨_, (by (focus ((repeat (first | exact SelT.nil | apply SelT.yes | apply SelT.no)); done))), ?_⟩;
                 (first | (apply EvW.move; exact rfl) | (apply EvW.assign; exact rfl) | (apply EvW.extract; exact rfl; exact rfl) | (apply EvW.lenS; exact rfl; exact UndC.eq) | (apply EvW.cmpT; exact rfl; exact rfl; exact rfl; omega) | (apply EvW.cmpF; exact rfl; exact rfl; exact rfl; omega) | (apply EvW.cmp; exact rfl; exact rfl; exact rfl) | (apply EvW.arN; exact rfl; exact rfl; exact rfl; refine i64_in ?_ ?_ <;> omega) | (apply EvW.ar; exact rfl; exact rfl; exact rfl) | (apply EvW.pickT; exact rfl; exact rfl) | (apply EvW.pickF; exact rfl; exact rfl) | (apply EvW.sliceS; exact rfl; exact UndC.eq; exact rfl; exact rfl; omega; omega; omega) | (apply EvW.sliceS_lo; exact rfl; exact UndC.eq; exact rfl; omega; omega) | (apply EvW.sliceS_hi; exact rfl; exact UndC.eq; exact rfl; omega; omega)))
            (apply Par.new _ [false, false, false] [false, false, true] [false, false, false]; exact rfl; exact rfl; decide +kernel; intro R; refine ⟨_, _, _, (by (focus ((repeat (first | exact SelT.nil | apply SelT.yes | apply SelT.no)); done))), (by (focus ((repeat (first | exact SelT.nil | apply SelT.yes | apply SelT.no)); done))), (fun x => (by (focus ((repeat (first | exact SelT.nil | apply SelT.yes | apply SelT.no)); done)))), ?_⟩; (apply NewW.buildSlice; exact UndC.eq; exact SzC.eq; exact ZvC.eq; exact rfl; exact rfl; exact rfl; (focus ((repeat (first | exact Flat.nil | (apply Flat.one; (first | exact rfl | assumption)) | (apply Flat.cons; exact rfl; exact rfl))); done)); exact rfl; exact rfl; exact fun _ => rfl))
            apply Par.quiet _ [false, true, true]
            · exact rfl
            · decide +kernel
            · exact rfl
            · intro R
              refine ⟨_, (by (focus ((repeat (first | exact SelT.nil | apply SelT.yes | apply SelT.no)); done))), ?_⟩
              apply EvW.callK ([])
              · exact rfl
              · exact fun w => Try.call51 _ w
              · (focus ((repeat (first | exact TakeL.nil | apply TakeL.cons | exact Take.head | apply Take.tail)); done))
              · exact fun w1 S1 hS1 hs1 ho1 => sum_spec _ [f.take ((k : Int) - 4).toNat] w1 S1 hS1 ((ho1 _ _ (by (focus ((repeat (first | exact Take.head | apply Take.tail)); done)))).blkRow rfl (fun k u h => by simpa using h) (by simp)) (by simp) (by intro p hp; simp only [List.mem_singleton] at hp; rw [hp]; simp; omega)
              · exact fun _ _ h => h
            (apply Par.quiet _ [false, true, true]; exact rfl; decide +kernel; exact rfl; intro R; refine ⟨_, (by (focus ((repeat (first | exact SelT.nil | apply SelT.yes | apply SelT.no)); done))), ?_⟩;
                 (first | (apply EvW.move; exact rfl) | (apply EvW.assign; exact rfl) | (apply EvW.extract; exact rfl; exact rfl) | (apply EvW.lenS; exact rfl; exact UndC.eq) | (apply EvW.cmpT; exact rfl; exact rfl; exact rfl; omega) | (apply EvW.cmpF; exact rfl; exact rfl; exact rfl; omega) | (apply EvW.cmp; exact rfl; exact rfl; exact rfl) | (apply EvW.arN; exact rfl; exact rfl; exact rfl; refine i64_in ?_ ?_ <;> omega) | (apply EvW.ar; exact rfl; exact rfl; exact rfl) | (apply EvW.pickT; exact rfl; exact rfl) | (apply EvW.pickF; exact rfl; exact rfl) | (apply EvW.sliceS; exact rfl; exact UndC.eq; exact rfl; exact rfl; omega; omega; omega) | (apply EvW.sliceS_lo; exact rfl; exact UndC.eq; exact rfl; omega; omega) | (apply EvW.sliceS_hi; exact rfl; exact UndC.eq; exact rfl; omega; omega)))
            exact Par.nil
          · repeat (first | exact AllN.nil | (apply AllN.cons; (intro c x; (repeat (first | exact IndA.nil | (apply IndA.skip; decide +kernel) | apply IndA.same))))) 
          · repeat (first | exact AllN.nil | (apply AllN.cons; (intro c x; (repeat (first | exact IndT.nil | (apply IndT.skip; decide +kernel) | apply IndT.same))))) 
          · exact fun _ => rfl
          intro c
          refine ⟨_, (by (focus ((repeat (first | exact SelT.nil | apply SelT.yes | apply SelT.no)); done))), ?_⟩
          apply WE.writ
          · (focus ((repeat (first | exact Writ.nil | apply Writ.some | apply Writ.none)); done))
          generalize (c 4).1 = b4
          generalize (c 10).1 = b10
          have hk4 : ((k : Int) - 4).toNat = f.length - 4 := by omega
          have hnum : (PR.mk 0 (f.drop ((k : Int) - 4).toNat)).num 4 = (numOf (f.drop (f.length - 4)), PR.mk 0 []) := by
            have hl4 : (f.drop (f.length - 4)).length = 4 := by simp; omega
            rw [hk4, num_good _ 4 rfl (by simp only []; omega)]
            simp only []
            rw [show (f.drop (f.length - 4)).take 4 = f.drop (f.length - 4) from List.take_of_length_le (by omega), show (f.drop (f.length - 4)).drop 4 = [] from List.drop_of_length_le (by omega)]
          rw [hnum, hk4, show [f.take (f.length - 4)].flatten = f.take (f.length - 4) by simp]
          by_cases hsum : numOf (f.drop (f.length - 4)) = ((crc (f.take (f.length - 4))).toNat : Int)
          · have hB : bodyF f a = ((f.take (f.length - 4)).drop 2, a + f.length, 0) := by unfold bodyF; rw [if_neg (by rw [hsum]; simp)]
            rw [hB, decide_eq_false (fun h => h hsum)]
            repeat first
              | (apply WL.q; exact rfl; exact rfl; exact rfl; (first | (apply EvW.move; exact rfl) | (apply EvW.assign; exact rfl) | (apply EvW.extract; exact rfl; exact rfl) | (apply EvW.lenS; exact rfl; exact UndC.eq) | (apply EvW.cmpT; exact rfl; exact rfl; exact rfl; omega) | (apply EvW.cmpF; exact rfl; exact rfl; exact rfl; omega) | (apply EvW.cmp; exact rfl; exact rfl; exact rfl) | (apply EvW.arN; exact rfl; exact rfl; exact rfl; refine i64_in ?_ ?_ <;> omega) | (apply EvW.ar; exact rfl; exact rfl; exact rfl) | (apply EvW.pickT; exact rfl; exact rfl) | (apply EvW.pickF; exact rfl; exact rfl) | (apply EvW.sliceS; exact rfl; exact UndC.eq; exact rfl; exact rfl; omega; omega; omega) | (apply EvW.sliceS_lo; exact rfl; exact UndC.eq; exact rfl; omega; omega) | (apply EvW.sliceS_hi; exact rfl; exact UndC.eq; exact rfl; omega; omega)))
              | refine WC.seq ?_ | refine WC.region ?_ | refine WL.nil ?_ | refine WE.next ?_ | refine WC.skip ?_ | refine WC.exit ?_ | refine WE.pass ?_ | refine WE.hit ?_ | refine WE.miss rfl ?_ | refine WE.out ?_ | refine WC.condT rfl ?_ | refine WC.condF rfl ?_ | refine WC.ret ?_ | refine WE.passRet ?_ | refine WE.outRet ?_ | refine WL.wanted rfl rfl rfl ?_ | refine WL.unwanted rfl rfl rfl rfl ?_ | refine WL.unwantedU rfl rfl rfl rfl ?_ | refine WL.unwanted0 rfl rfl rfl ?_
            refine WE.bare ?_
            refine WE.retN (l := [4, 5, 6]) rfl rfl rfl ?_
            refine ⟨?_, rfl⟩
            rw [← hfl]
            have e1 : ((f.length : Int) - 4).toNat = f.length - 4 := by omega
            simp only [e1]
            rfl
          · have hB : bodyF f a = ([], 0, 4) := by unfold bodyF; rw [if_pos hsum]
            rw [hB, decide_eq_true hsum]
            repeat first
              | (apply WL.q; exact rfl; exact rfl; exact rfl; (first | (apply EvW.move; exact rfl) | (apply EvW.assign; exact rfl) | (apply EvW.extract; exact rfl; exact rfl) | (apply EvW.lenS; exact rfl; exact UndC.eq) | (apply EvW.cmpT; exact rfl; exact rfl; exact rfl; omega) | (apply EvW.cmpF; exact rfl; exact rfl; exact rfl; omega) | (apply EvW.cmp; exact rfl; exact rfl; exact rfl) | (apply EvW.arN; exact rfl; exact rfl; exact rfl; refine i64_in ?_ ?_ <;> omega) | (apply EvW.ar; exact rfl; exact rfl; exact rfl) | (apply EvW.pickT; exact rfl; exact rfl) | (apply EvW.pickF; exact rfl; exact rfl) | (apply EvW.sliceS; exact rfl; exact UndC.eq; exact rfl; exact rfl; omega; omega; omega) | (apply EvW.sliceS_lo; exact rfl; exact UndC.eq; exact rfl; omega; omega) | (apply EvW.sliceS_hi; exact rfl; exact UndC.eq; exact rfl; omega; omega)))
              | refine WC.seq ?_ | refine WC.region ?_ | refine WL.nil ?_ | refine WE.next ?_ | refine WC.skip ?_ | refine WC.exit ?_ | refine WE.pass ?_ | refine WE.hit ?_ | refine WE.miss rfl ?_ | refine WE.out ?_ | refine WC.condT rfl ?_ | refine WC.condF rfl ?_ | refine WC.ret ?_ | refine WE.passRet ?_ | refine WE.outRet ?_ | refine WL.wanted rfl rfl rfl ?_ | refine WL.unwanted rfl rfl rfl rfl ?_ | refine WL.unwantedU rfl rfl rfl rfl ?_ | refine WL.unwanted0 rfl rfl rfl ?_
            refine WE.bare ?_
            refine WE.retN (l := [4, 5, 6]) rfl rfl rfl ?_
            exact ⟨rfl, rfl⟩
      · rw [if_pos he]
        repeat first
          | (apply WL.q; exact rfl; exact rfl; exact rfl; (first | (apply EvW.move; exact rfl) | (apply EvW.assign; exact rfl) | (apply EvW.extract; exact rfl; exact rfl) | (apply EvW.lenS; exact rfl; exact UndC.eq) | (apply EvW.cmpT; exact rfl; exact rfl; exact rfl; omega) | (apply EvW.cmpF; exact rfl; exact rfl; exact rfl; omega) | (apply EvW.cmp; exact rfl; exact rfl; exact rfl) | (apply EvW.arN; exact rfl; exact rfl; exact rfl; refine i64_in ?_ ?_ <;> omega) | (apply EvW.ar; exact rfl; exact rfl; exact rfl) | (apply EvW.pickT; exact rfl; exact rfl) | (apply EvW.pickF; exact rfl; exact rfl) | (apply EvW.sliceS; exact rfl; exact UndC.eq; exact rfl; exact rfl; omega; omega; omega) | (apply EvW.sliceS_lo; exact rfl; exact UndC.eq; exact rfl; omega; omega) | (apply EvW.sliceS_hi; exact rfl; exact UndC.eq; exact rfl; omega; omega)))
          | refine WC.seq ?_ | refine WC.region ?_ | refine WL.nil ?_ | refine WE.next ?_ | refine WC.skip ?_ | refine WC.exit ?_ | refine WE.pass ?_ | refine WE.hit ?_ | refine WE.miss rfl ?_ | refine WE.out ?_ | refine WC.condT rfl ?_ | refine WC.condF rfl ?_ | refine WC.ret ?_ | refine WE.passRet ?_ | refine WE.outRet ?_ | refine WL.wanted rfl rfl rfl ?_ | refine WL.unwanted rfl rfl rfl rfl ?_ | refine WL.unwantedU rfl rfl rfl rfl ?_ | refine WL.unwanted0 rfl rfl rfl ?_
        refine WE.retN (l := [4, 5, 6]) rfl rfl rfl ?_
        exact ⟨rfl, rfl⟩
theorem open_spec (l : List UInt8) (w : World) (S : BSet) (hS : (sepL []).sat S w) (hl : l.length ≤ 1152921504606846976) :
    Tri Try.prog 36 #[str l] w S fun u A => u = .tuple #[str (openF l).1, i64 (openF l).2] ∧ A = [] := by
  refine Tri.enter (l := [str l]) Try.func36 rfl Try.ntmps36 rfl [(0, str l)] (subA rfl) hS ?_
  have hF : openF l = if (cutF l).2 ≠ 0 then ([], (cutF l).2) else if (cutF l).1 < l.length then ([], 3) else ((nextF l 0).1, (nextF l 0).2.2) := rfl
  rw [hF]
  repeat first
    | (apply WL.q; exact rfl; exact rfl; exact rfl; (first | (apply EvW.move; exact rfl) | (apply EvW.assign; exact rfl) | (apply EvW.extract; exact rfl; exact rfl) | (apply EvW.lenS; exact rfl; exact UndC.eq) | (apply EvW.cmpT; exact rfl; exact rfl; exact rfl; omega) | (apply EvW.cmpF; exact rfl; exact rfl; exact rfl; omega) | (apply EvW.cmp; exact rfl; exact rfl; exact rfl)))
    | refine WC.seq ?_ | refine WC.region ?_ | refine WL.nil ?_ | refine WE.next ?_ | refine WC.skip ?_ | refine WC.exit ?_ | refine WE.pass ?_ | refine WE.hit ?_ | refine WE.miss rfl ?_ | refine WE.out ?_ | refine WC.condT rfl ?_ | refine WC.condF rfl ?_ | refine WC.ret ?_ | refine WE.passRet ?_ | refine WE.outRet ?_ | refine WL.wanted rfl rfl rfl ?_
  try refine WL.wanted rfl rfl rfl ?_
  apply WL.callT
  · exact rfl
  · exact rfl
  · exact fun w1 S1 hS1 hs1 ho1 => cut_spec l w1 S1 hS1 hl
  · exact fun w => Try.call55 _ w
  · (focus ((repeat (first | exact TakeL.nil | apply TakeL.cons | exact Take.head | apply Take.tail)); done))
  rintro _ _ ⟨rfl, rfl⟩
  first | refine WL.app4 ?_ | refine WL.app3 ?_ | refine WL.app2 ?_ | refine WL.app1 ?_ | refine WL.app0 ?_ | skip
  by_cases he : (cutF l).2 = 0
  · rw [if_neg (by simp [he])]
    by_cases hb : (cutF l).1 < l.length
    · rw [if_pos hb]
      repeat first
        | (apply WL.q; exact rfl; exact rfl; exact rfl; (first | (apply EvW.move; exact rfl) | (apply EvW.assign; exact rfl) | (apply EvW.extract; exact rfl; exact rfl) | (apply EvW.lenS; exact rfl; exact UndC.eq) | (apply EvW.cmpT; exact rfl; exact rfl; exact rfl; omega) | (apply EvW.cmpF; exact rfl; exact rfl; exact rfl; omega) | (apply EvW.cmp; exact rfl; exact rfl; exact rfl)))
        | refine WC.seq ?_ | refine WC.region ?_ | refine WL.nil ?_ | refine WE.next ?_ | refine WC.skip ?_ | refine WC.exit ?_ | refine WE.pass ?_ | refine WE.hit ?_ | refine WE.miss rfl ?_ | refine WE.out ?_ | refine WC.condT rfl ?_ | refine WC.condF rfl ?_ | refine WC.ret ?_ | refine WE.passRet ?_ | refine WE.outRet ?_ | refine WL.wanted rfl rfl rfl ?_
      refine WE.retN (l := [2, 3]) rfl rfl rfl ?_
      exact ⟨rfl, rfl⟩
    · rw [if_neg hb]
      repeat first
        | (apply WL.q; exact rfl; exact rfl; exact rfl; (first | (apply EvW.move; exact rfl) | (apply EvW.assign; exact rfl) | (apply EvW.extract; exact rfl; exact rfl) | (apply EvW.lenS; exact rfl; exact UndC.eq) | (apply EvW.cmpT; exact rfl; exact rfl; exact rfl; omega) | (apply EvW.cmpF; exact rfl; exact rfl; exact rfl; omega) | (apply EvW.cmp; exact rfl; exact rfl; exact rfl)))
        | refine WC.seq ?_ | refine WC.region ?_ | refine WL.nil ?_ | refine WE.next ?_ | refine WC.skip ?_ | refine WC.exit ?_ | refine WE.pass ?_ | refine WE.hit ?_ | refine WE.miss rfl ?_ | refine WE.out ?_ | refine WC.condT rfl ?_ | refine WC.condF rfl ?_ | refine WC.ret ?_ | refine WE.passRet ?_ | refine WE.outRet ?_ | refine WL.wanted rfl rfl rfl ?_
      try refine WL.wanted rfl rfl rfl ?_
      apply WL.callT
      · exact rfl
      · exact rfl
      · exact fun w1 S1 hS1 hs1 ho1 => next_spec l 0 w1 S1 hS1 hl
      · exact fun w => Try.call56 _ w
      · (focus ((repeat (first | exact TakeL.nil | apply TakeL.cons | exact Take.head | apply Take.tail)); done))
      rintro _ _ ⟨rfl, rfl⟩
      first | refine WL.app4 ?_ | refine WL.app3 ?_ | refine WL.app2 ?_ | refine WL.app1 ?_ | refine WL.app0 ?_ | skip
      repeat first
        | (apply WL.q; exact rfl; exact rfl; exact rfl; (first | (apply EvW.move; exact rfl) | (apply EvW.assign; exact rfl) | (apply EvW.extract; exact rfl; exact rfl) | (apply EvW.lenS; exact rfl; exact UndC.eq) | (apply EvW.cmpT; exact rfl; exact rfl; exact rfl; omega) | (apply EvW.cmpF; exact rfl; exact rfl; exact rfl; omega) | (apply EvW.cmp; exact rfl; exact rfl; exact rfl)))
        | refine WC.seq ?_ | refine WC.region ?_ | refine WL.nil ?_ | refine WE.next ?_ | refine WC.skip ?_ | refine WC.exit ?_ | refine WE.pass ?_ | refine WE.hit ?_ | refine WE.miss rfl ?_ | refine WE.out ?_ | refine WC.condT rfl ?_ | refine WC.condF rfl ?_ | refine WC.ret ?_ | refine WE.passRet ?_ | refine WE.outRet ?_ | refine WL.wanted rfl rfl rfl ?_
      refine WE.retN (l := [2, 3]) rfl rfl rfl ?_
      exact ⟨rfl, rfl⟩
  · rw [if_pos he]
    repeat first
      | (apply WL.q; exact rfl; exact rfl; exact rfl; (first | (apply EvW.move; exact rfl) | (apply EvW.assign; exact rfl) | (apply EvW.extract; exact rfl; exact rfl) | (apply EvW.lenS; exact rfl; exact UndC.eq) | (apply EvW.cmpT; exact rfl; exact rfl; exact rfl; omega) | (apply EvW.cmpF; exact rfl; exact rfl; exact rfl; omega) | (apply EvW.cmp; exact rfl; exact rfl; exact rfl)))
      | refine WC.seq ?_ | refine WC.region ?_ | refine WL.nil ?_ | refine WE.next ?_ | refine WC.skip ?_ | refine WC.exit ?_ | refine WE.pass ?_ | refine WE.hit ?_ | refine WE.miss rfl ?_ | refine WE.out ?_ | refine WC.condT rfl ?_ | refine WC.condF rfl ?_ | refine WC.ret ?_ | refine WE.passRet ?_ | refine WE.outRet ?_ | refine WL.wanted rfl rfl rfl ?_
    refine WE.retN (l := [2, 3]) rfl rfl rfl ?_
    exact ⟨rfl, rfl⟩
end Go.Proofs.Ytgcpoehchohleaa
