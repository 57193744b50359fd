/- The document's receiver; what is made is read, and what is read was made. -/
import Derived.Test.YtgcpoehchohleaaLinkB
namespace Go.Proofs.Ytgcpoehchohleaa
open Go.RowKit Go.BK

def numsF (m : Rcv) (now : Int) (r : Said × Int) (ns : List Int) : List Int := if (takeF m now r).2.2 = 0 then ns ++ [r.1.n] else ns
theorem note_last (m : Rcv) (n s : Int) : (m.note n s).last = s := by unfold Rcv.note; split <;> rfl
theorem note_peer (m : Rcv) (n s : Int) : (m.note n s).peer = m.peer := by unfold Rcv.note; split <;> rfl
theorem note_age (m : Rcv) (n s : Int) : (m.note n s).age = m.age := by unfold Rcv.note; split <;> rfl
theorem fresh_spec (now s a : Int) (r : Bool) (w : World) (S : BSet) (hS : (sepL []).sat S w) (h0 : 0 ≤ s) (hw : now ≤ 9223372036854775807) (hr : (decide (s ≤ now) && decide (now - s ≤ a)) = r) :
    Tri Try.prog 45 #[i64 now, i64 s, i64 a] w S fun u A => u = .bool r ∧ A = [] := by
  refine Tri.enter (l := [i64 now, i64 s, i64 a]) Try.func45 rfl Try.ntmps45 rfl [(0, i64 now), (1, i64 s), (2, i64 a)] (subA rfl) hS ?_
  subst hr
  by_cases h1 : 0 ≤ now
  · by_cases h2 : s ≤ now
    · rw [decide_eq_true h2, Bool.true_and]
      repeat first
        | (apply WL.q; exact rfl; exact rfl; exact rfl; (first | (apply EvW.move; exact rfl) | (apply EvW.assign; exact rfl) | (apply EvW.cmpT; exact rfl; exact rfl; exact rfl; omega) | (apply EvW.cmp; exact rfl; exact rfl; exact rfl) | (apply EvW.arN; exact rfl; exact rfl; exact rfl; refine i64_in ?_ ?_ <;> omega) | (apply EvW.pickT; exact rfl; exact rfl)))
        | refine WC.seq ?_ | refine WC.region ?_ | refine WL.nil ?_ | refine WE.next ?_ | refine WC.ret ?_ | refine WL.wanted rfl rfl rfl ?_
      refine WE.ret1 rfl rfl ?_
      exact ⟨rfl, rfl⟩
    · rw [decide_eq_false h2, Bool.false_and]
      repeat first
        | (apply WL.q; exact rfl; exact rfl; exact rfl; (first | (apply EvW.move; exact rfl) | (apply EvW.assign; exact rfl) | (apply EvW.cmpT; exact rfl; exact rfl; exact rfl; omega) | (apply EvW.cmpF; exact rfl; exact rfl; exact rfl; omega) | (apply EvW.pickT; exact rfl; exact rfl) | (apply EvW.pickF; exact rfl; exact rfl)))
        | refine WC.seq ?_ | refine WC.region ?_ | refine WL.nil ?_ | refine WE.next ?_ | refine WC.ret ?_ | refine WL.wanted rfl rfl rfl ?_ | refine WL.unwanted rfl rfl rfl rfl ?_
      refine WE.ret1 rfl rfl ?_
      exact ⟨rfl, rfl⟩
  · rw [decide_eq_false (show ¬ s ≤ now by omega), Bool.false_and]
    repeat first
      | (apply WL.q; exact rfl; exact rfl; exact rfl; (first | (apply EvW.move; exact rfl) | (apply EvW.assign; exact rfl) | (apply EvW.cmpF; exact rfl; exact rfl; exact rfl; omega) | (apply EvW.pickF; exact rfl; exact rfl)))
      | refine WC.seq ?_ | refine WC.region ?_ | refine WL.nil ?_ | refine WE.next ?_ | refine WC.ret ?_ | refine WL.unwanted rfl rfl rfl rfl ?_
    refine WE.ret1 rfl rfl ?_
    exact ⟨rfl, rfl⟩
theorem rnew09_spec (p a : Int) (w : World) (S : BSet) (hS : (sepL []).sat S w)  :
    Tri Try.prog 21 #[i64 p, i64 a] w S fun u A => ∃ b, u = ptr b 0 ∧ A = [.blk b #[i64 (Rcv.new p a).peer, i64 (Rcv.new p a).age, i64 (Rcv.new p a).last, Value.slice none 0 0] 58, .own 3 1 (Value.slice none 0 0) (([] : List Int)).length ((([] : List Int)).map i64)] := by
  refine Tri.enter (l := [i64 p, i64 a]) Try.func21 rfl Try.ntmps21 rfl [(0, i64 p), (1, i64 a)] (subA rfl) hS ?_
  refine WC.ownNil 3 1 ?_
  repeat first
    | (apply WL.q; exact rfl; exact rfl; exact rfl; (first | (apply EvW.move; exact rfl) | (apply EvW.assign; exact rfl) | (apply EvW.build; exact PlC.eq; exact ZvC.eq; exact rfl; exact rfl; (focus ((repeat (first | exact Fills.nil | (apply Fills.cons; exact rfl; (first | assumption | exact rfl); exact rfl) | exact SetMany.nil | apply SetMany.cons | apply SetMany.succ)); done)))))
    | refine WC.seq ?_ | refine WC.region ?_ | refine WL.nil ?_ | refine WE.next ?_
  try refine WL.wanted rfl rfl rfl ?_
  (apply WL.box; exact rfl; exact rfl; exact rfl; intro b)
  repeat first
    | (apply WL.q; exact rfl; exact rfl; exact rfl; (first | (apply EvW.assign; exact rfl)))
    | refine WL.nil ?_ | refine WE.next ?_ | refine WC.ret ?_
  refine WE.ret1 rfl rfl ?_
  exact ⟨b, rfl, rfl⟩
theorem rtake_spec (b : Nat) (v : Value) (m : Rcv) (ns : List Int) (now : Int) (l : List UInt8) (x : Said) (e : Int) (w : World) (S : BSet) (hS : (sepL [.blk b #[i64 (m).peer, i64 (m).age, i64 (m).last, v] 58, .own 3 1 (v) (ns).length ((ns).map i64)]).sat S w) (hl : l.length ≤ 140737488355328) (hw : now ≤ 9223372036854775807) (hn : ns.length ≤ 8796093022208) (hr : readF l = (x, e)) :
    Tri Try.prog 22 #[ptr b 0, i64 now, str l] w S fun u A => u = .tuple #[str (takeF m now (x, e)).2.1, i64 (takeF m now (x, e)).2.2] ∧ ∃ v', A = [.blk b #[i64 ((takeF m now (x, e)).1).peer, i64 ((takeF m now (x, e)).1).age, i64 ((takeF m now (x, e)).1).last, v'] 58, .own 3 1 (v') (numsF m now (x, e) ns).length ((numsF m now (x, e) ns).map i64)] := by
  refine Tri.enter (l := [ptr b 0, i64 now, str l]) Try.func22 rfl Try.ntmps22 rfl [(0, ptr b 0), (1, i64 now), (2, str l)] (subA rfl) hS ?_
  have hs := (readF_small hr).s
  unfold numsF takeF
  dsimp only
  repeat first
    | (apply WL.q; exact rfl; exact rfl; exact rfl; (first | (apply EvW.move; exact rfl) | (apply EvW.assign; exact rfl)))
    | refine WC.seq ?_ | refine WC.region ?_ | refine WL.nil ?_ | refine WE.next ?_
  try refine WL.wanted rfl rfl rfl ?_
  apply WL.callA ([])
  · exact rfl
  · exact rfl
  · exact fun w => Try.call14 _ w
  · (focus ((repeat (first | exact TakeL.nil | apply TakeL.cons | exact Take.head | apply Take.tail)); done))
  · exact fun w1 S1 hS1 hs1 ho1 => rread_spec l (x, e) w1 S1 hS1 hl hr
  rintro _ _ ⟨rfl, rfl⟩
  first | refine WL.app4 ?_ | refine WL.app3 ?_ | refine WL.app2 ?_ | refine WL.app1 ?_ | refine WL.app0 ?_ | skip
  dsimp only
  repeat first
    | (apply WL.q; exact rfl; exact rfl; exact rfl; (first | (apply EvW.move; exact rfl) | (apply EvW.extract; exact rfl; exact rfl)))
  try refine WL.wanted rfl rfl rfl ?_
  (apply WL.alloc; exact rfl; exact ZvC.eq; exact rfl; intro q)
  by_cases he : e = 0
  rotate_left
  · rw [if_pos he]
    dsimp only
    rw [if_neg he]
    repeat first
      | (apply WL.q; exact rfl; exact rfl; exact rfl; (first | (apply EvW.move; exact rfl) | (apply EvW.assign; exact rfl) | (apply EvW.cmpT; exact rfl; exact rfl; exact rfl; omega)))
      | refine WC.seq ?_ | refine WC.region ?_ | refine WL.nil ?_ | refine WE.next ?_ | refine WC.condT rfl ?_ | refine WC.ret ?_ | refine WE.passRet ?_ | (apply WL.store; exact rfl; exact rfl; (first | assumption | exact rfl); exact SzC.eq; (first | assumption | exact rfl); (focus ((repeat (first | apply UpdC.head | apply UpdC.tail | exact SetMany.nil | apply SetMany.cons | apply SetMany.succ)); done)))
    refine WE.keep (xs := [.blk b #[i64 (m).peer, i64 (m).age, i64 (m).last, v] 58, .own 3 1 (v) (ns).length ((ns).map i64)]) (by (focus ((repeat (first | exact TakeL.nil | apply TakeL.cons | exact Take.head | apply Take.tail)); done))) ?_
    refine WE.retN (l := [6, 7]) rfl rfl rfl ?_
    exact ⟨rfl, v, rfl⟩
  rw [if_neg (fun h => h he)]
  by_cases hp : x.p = m.peer
  rotate_left
  · rw [if_pos hp]
    repeat first
      | (apply WL.q; exact rfl; exact rfl; exact rfl; (first | (apply EvW.move; exact rfl) | (apply EvW.assign; exact rfl) | (apply EvW.cmpF; exact rfl; exact rfl; exact rfl; omega)))
      | refine WC.seq ?_ | refine WC.region ?_ | refine WL.nil ?_ | refine WE.next ?_ | refine WC.block ?_ | refine WC.skip ?_ | refine WC.condF rfl ?_ | (apply WL.store; exact rfl; exact rfl; (first | assumption | exact rfl); exact SzC.eq; (first | assumption | exact rfl); (focus ((repeat (first | apply UpdC.head | apply UpdC.tail | exact SetMany.nil | apply SetMany.cons | apply SetMany.succ)); done)))
    repeat refine WC.seq ?_
    refine WC.keep (xs := [.blk b #[i64 (m).peer, i64 (m).age, i64 (m).last, v] 58, .own 3 1 (v) (ns).length ((ns).map i64), .blk q #[i64 (x).p, i64 (x).n, i64 (x).s, str (x).t] 23]) (by (focus ((repeat (first | exact TakeL.nil | apply TakeL.cons | exact Take.head | apply Take.tail)); done))) ?_
    apply WC.par _ (fun c : Ch => [.blk b #[i64 (m).peer, i64 (m).age, i64 (m).last, v] 58, .own 3 1 (v) (ns).length ((ns).map i64), .blk q #[i64 (x).p, i64 (x).n, i64 (x).s, str (x).t] 23]) [none, none, none] [none, none, none] [] Try.mixed
    · (focus ((repeat (first | exact Restr.nil | (apply Restr.keep; exact rfl; exact rfl) | (apply Restr.drop; exact rfl))); done))
    · intro c; exact (by (focus ((repeat (first | exact SelT.nil | apply SelT.yes | apply SelT.no)); done)))
    · exact rfl
    · decide +kernel
    · decide +kernel
    · intro c
      (apply Par.quiet _ [true, true, true]; exact rfl; decide +kernel; exact rfl; intro R; refine ⟨_, (by (focus ((repeat (first | exact SelT.nil | apply SelT.yes | apply SelT.no)); done))), ?_⟩;
           (first | (apply EvW.fieldAddr0; exact rfl; exact FldC.eq)))
      (apply Par.quiet _ [true, true, true]; exact rfl; decide +kernel; exact rfl; intro R; refine ⟨_, (by (focus ((repeat (first | exact SelT.nil | apply SelT.yes | apply SelT.no)); done))), ?_⟩;
           (first | (apply EvW.load; exact rfl; exact ScalC.eq; (focus ((repeat (first | exact Take.head | apply Take.tail)); done)); exact rfl)))
      (apply Par.quiet _ [true, true, true]; exact rfl; decide +kernel; exact rfl; intro R; refine ⟨_, (by (focus ((repeat (first | exact SelT.nil | apply SelT.yes | apply SelT.no)); done))), ?_⟩;
           (first | (apply EvW.move; exact rfl)))
      (apply Par.quiet _ [true, true, true]; exact rfl; decide +kernel; exact rfl; intro R; refine ⟨_, (by (focus ((repeat (first | exact SelT.nil | apply SelT.yes | apply SelT.no)); done))), ?_⟩;
           (first | (apply EvW.nilPtr; exact rfl)))
      (apply Par.quiet _ [true, true, true]; exact rfl; decide +kernel; exact rfl; intro R; refine ⟨_, (by (focus ((repeat (first | exact SelT.nil | apply SelT.yes | apply SelT.no)); done))), ?_⟩;
           (first | (apply EvW.fieldAddr0; exact rfl; exact FldC.eq)))
      (apply Par.quiet _ [true, true, true]; exact rfl; decide +kernel; exact rfl; intro R; refine ⟨_, (by (focus ((repeat (first | exact SelT.nil | apply SelT.yes | apply SelT.no)); done))), ?_⟩;
           (first | (apply EvW.load; exact rfl; exact ScalC.eq; (focus ((repeat (first | exact Take.head | apply Take.tail)); done)); exact rfl)))
      (apply Par.quiet _ [true, true, true]; exact rfl; decide +kernel; exact rfl; intro R; refine ⟨_, (by (focus ((repeat (first | exact SelT.nil | apply SelT.yes | apply SelT.no)); done))), ?_⟩;
           (first | (apply EvW.cmpT; exact rfl; exact rfl; exact rfl; omega)))
      (apply Par.quiet _ [true, true, true]; exact rfl; decide +kernel; exact rfl; intro R; refine ⟨_, (by (focus ((repeat (first | exact SelT.nil | apply SelT.yes | apply SelT.no)); done))), ?_⟩;
           (first | (apply EvW.assign; exact rfl)))
      exact Par.nil
    · repeat (first | exact AllN.nil | (apply AllN.cons; (intro c x; (repeat (first | exact IndA.nil | (apply IndA.skip; decide +kernel) | apply IndA.same))))) 
    · repeat (first | exact AllN.nil | (apply AllN.cons; (intro c x; (repeat (first | exact IndT.nil | (apply IndT.skip; decide +kernel) | apply IndT.same))))) 
    · exact fun _ => rfl
    intro c
    refine ⟨_, (by (focus ((repeat (first | exact SelT.nil | apply SelT.yes | apply SelT.no)); done))), ?_⟩
    apply WE.writ
    · (focus ((repeat (first | exact Writ.nil | apply Writ.some | apply Writ.none)); done))
    repeat first
      | (apply WL.q; exact rfl; exact rfl; exact rfl; (first | (apply EvW.assign; exact rfl)))
      | refine WC.seq ?_ | refine WC.region ?_ | refine WL.nil ?_ | refine WE.next ?_ | refine WC.condT rfl ?_ | refine WC.ret ?_ | refine WE.passRet ?_ | refine WE.outRet ?_
    refine WE.keep (xs := [.blk b #[i64 (m).peer, i64 (m).age, i64 (m).last, v] 58, .own 3 1 (v) (ns).length ((ns).map i64)]) (by (focus ((repeat (first | exact TakeL.nil | apply TakeL.cons | exact Take.head | apply Take.tail)); done))) ?_
    refine WE.retN (l := [6, 7]) rfl rfl rfl ?_
    exact ⟨rfl, v, rfl⟩
  rw [if_neg (fun h => h hp)]
  by_cases hz : now < x.s
  · rw [if_pos hz]
    repeat first
      | (apply WL.q; exact rfl; exact rfl; exact rfl; (first | (apply EvW.move; exact rfl) | (apply EvW.assign; exact rfl) | (apply EvW.cmpF; exact rfl; exact rfl; exact rfl; omega)))
      | refine WC.seq ?_ | refine WC.region ?_ | refine WL.nil ?_ | refine WE.next ?_ | refine WC.block ?_ | refine WC.skip ?_ | refine WC.condF rfl ?_ | (apply WL.store; exact rfl; exact rfl; (first | assumption | exact rfl); exact SzC.eq; (first | assumption | exact rfl); (focus ((repeat (first | apply UpdC.head | apply UpdC.tail | exact SetMany.nil | apply SetMany.cons | apply SetMany.succ)); done)))
    repeat refine WC.seq ?_
    refine WC.keep (xs := [.blk b #[i64 (m).peer, i64 (m).age, i64 (m).last, v] 58, .own 3 1 (v) (ns).length ((ns).map i64), .blk q #[i64 (x).p, i64 (x).n, i64 (x).s, str (x).t] 23]) (by (focus ((repeat (first | exact TakeL.nil | apply TakeL.cons | exact Take.head | apply Take.tail)); done))) ?_
    apply WC.par _ (fun c : Ch => [.blk b #[i64 (m).peer, i64 (m).age, i64 (m).last, v] 58, .own 3 1 (v) (ns).length ((ns).map i64), .blk q #[i64 (x).p, i64 (x).n, i64 (x).s, str (x).t] 23]) [none, none, none] [none, none, none] [] Try.mixed
    · (focus ((repeat (first | exact Restr.nil | (apply Restr.keep; exact rfl; exact rfl) | (apply Restr.drop; exact rfl))); done))
    · intro c; exact (by (focus ((repeat (first | exact SelT.nil | apply SelT.yes | apply SelT.no)); done)))
    · exact rfl
    · decide +kernel
    · decide +kernel
    · intro c
      (apply Par.quiet _ [true, true, true]; exact rfl; decide +kernel; exact rfl; intro R; refine ⟨_, (by (focus ((repeat (first | exact SelT.nil | apply SelT.yes | apply SelT.no)); done))), ?_⟩;
           (first | (apply EvW.fieldAddr0; exact rfl; exact FldC.eq)))
      (apply Par.quiet _ [true, true, true]; exact rfl; decide +kernel; exact rfl; intro R; refine ⟨_, (by (focus ((repeat (first | exact SelT.nil | apply SelT.yes | apply SelT.no)); done))), ?_⟩;
           (first | (apply EvW.load; exact rfl; exact ScalC.eq; (focus ((repeat (first | exact Take.head | apply Take.tail)); done)); exact rfl)))
      (apply Par.quiet _ [true, true, true]; exact rfl; decide +kernel; exact rfl; intro R; refine ⟨_, (by (focus ((repeat (first | exact SelT.nil | apply SelT.yes | apply SelT.no)); done))), ?_⟩;
           (first | (apply EvW.move; exact rfl)))
      (apply Par.quiet _ [true, true, true]; exact rfl; decide +kernel; exact rfl; intro R; refine ⟨_, (by (focus ((repeat (first | exact SelT.nil | apply SelT.yes | apply SelT.no)); done))), ?_⟩;
           (first | (apply EvW.nilPtr; exact rfl)))
      (apply Par.quiet _ [true, true, true]; exact rfl; decide +kernel; exact rfl; intro R; refine ⟨_, (by (focus ((repeat (first | exact SelT.nil | apply SelT.yes | apply SelT.no)); done))), ?_⟩;
           (first | (apply EvW.fieldAddr0; exact rfl; exact FldC.eq)))
      (apply Par.quiet _ [true, true, true]; exact rfl; decide +kernel; exact rfl; intro R; refine ⟨_, (by (focus ((repeat (first | exact SelT.nil | apply SelT.yes | apply SelT.no)); done))), ?_⟩;
           (first | (apply EvW.load; exact rfl; exact ScalC.eq; (focus ((repeat (first | exact Take.head | apply Take.tail)); done)); exact rfl)))
      (apply Par.quiet _ [true, true, true]; exact rfl; decide +kernel; exact rfl; intro R; refine ⟨_, (by (focus ((repeat (first | exact SelT.nil | apply SelT.yes | apply SelT.no)); done))), ?_⟩;
           (first | (apply EvW.cmpF; exact rfl; exact rfl; exact rfl; omega)))
      (apply Par.quiet _ [true, true, true]; exact rfl; decide +kernel; exact rfl; intro R; refine ⟨_, (by (focus ((repeat (first | exact SelT.nil | apply SelT.yes | apply SelT.no)); done))), ?_⟩;
           (first | (apply EvW.assign; exact rfl)))
      exact Par.nil
    · repeat (first | exact AllN.nil | (apply AllN.cons; (intro c x; (repeat (first | exact IndA.nil | (apply IndA.skip; decide +kernel) | apply IndA.same))))) 
    · repeat (first | exact AllN.nil | (apply AllN.cons; (intro c x; (repeat (first | exact IndT.nil | (apply IndT.skip; decide +kernel) | apply IndT.same))))) 
    · exact fun _ => rfl
    intro c
    refine ⟨_, (by (focus ((repeat (first | exact SelT.nil | apply SelT.yes | apply SelT.no)); done))), ?_⟩
    apply WE.writ
    · (focus ((repeat (first | exact Writ.nil | apply Writ.some | apply Writ.none)); done))
    repeat first
      | (apply WL.q; exact rfl; exact rfl; exact rfl; (first | (apply EvW.move; exact rfl) | (apply EvW.assign; exact rfl) | (apply EvW.fieldAddr0; exact rfl; exact FldC.eq) | (apply EvW.load; exact rfl; exact ScalC.eq; (focus ((repeat (first | exact Take.head | apply Take.tail)); done)); exact rfl) | (apply EvW.cmpT; exact rfl; exact rfl; exact rfl; omega)))
      | refine WC.seq ?_ | refine WC.region ?_ | refine WL.nil ?_ | refine WE.next ?_ | refine WC.condT rfl ?_ | refine WC.condF rfl ?_ | refine WC.ret ?_ | refine WE.passRet ?_ | refine WE.outRet ?_
    refine WE.keep (xs := [.blk b #[i64 (m).peer, i64 (m).age, i64 (m).last, v] 58, .own 3 1 (v) (ns).length ((ns).map i64)]) (by (focus ((repeat (first | exact TakeL.nil | apply TakeL.cons | exact Take.head | apply Take.tail)); done))) ?_
    refine WE.retN (l := [6, 7]) rfl rfl rfl ?_
    exact ⟨rfl, v, rfl⟩
  rw [if_neg hz]
  by_cases ha : m.age < now - x.s
  · rw [if_pos ha]
    repeat first
      | (apply WL.q; exact rfl; exact rfl; exact rfl; (first | (apply EvW.move; exact rfl) | (apply EvW.assign; exact rfl) | (apply EvW.cmpF; exact rfl; exact rfl; exact rfl; omega)))
      | refine WC.seq ?_ | refine WC.region ?_ | refine WL.nil ?_ | refine WE.next ?_ | refine WC.block ?_ | refine WC.skip ?_ | refine WC.condF rfl ?_ | (apply WL.store; exact rfl; exact rfl; (first | assumption | exact rfl); exact SzC.eq; (first | assumption | exact rfl); (focus ((repeat (first | apply UpdC.head | apply UpdC.tail | exact SetMany.nil | apply SetMany.cons | apply SetMany.succ)); done)))
    repeat refine WC.seq ?_
    refine WC.keep (xs := [.blk b #[i64 (m).peer, i64 (m).age, i64 (m).last, v] 58, .own 3 1 (v) (ns).length ((ns).map i64), .blk q #[i64 (x).p, i64 (x).n, i64 (x).s, str (x).t] 23]) (by (focus ((repeat (first | exact TakeL.nil | apply TakeL.cons | exact Take.head | apply Take.tail)); done))) ?_
    apply WC.par _ (fun c : Ch => [.blk b #[i64 (m).peer, i64 (m).age, i64 (m).last, v] 58, .own 3 1 (v) (ns).length ((ns).map i64), .blk q #[i64 (x).p, i64 (x).n, i64 (x).s, str (x).t] 23]) [none, none, none] [none, none, none] [] Try.mixed
    · (focus ((repeat (first | exact Restr.nil | (apply Restr.keep; exact rfl; exact rfl) | (apply Restr.drop; exact rfl))); done))
    · intro c; exact (by (focus ((repeat (first | exact SelT.nil | apply SelT.yes | apply SelT.no)); done)))
    · exact rfl
    · decide +kernel
    · decide +kernel
    · intro c
      (apply Par.quiet _ [true, true, true]; exact rfl; decide +kernel; exact rfl; intro R; refine ⟨_, (by (focus ((repeat (first | exact SelT.nil | apply SelT.yes | apply SelT.no)); done))), ?_⟩;
           (first | (apply EvW.fieldAddr0; exact rfl; exact FldC.eq)))
      (apply Par.quiet _ [true, true, true]; exact rfl; decide +kernel; exact rfl; intro R; refine ⟨_, (by (focus ((repeat (first | exact SelT.nil | apply SelT.yes | apply SelT.no)); done))), ?_⟩;
           (first | (apply EvW.load; exact rfl; exact ScalC.eq; (focus ((repeat (first | exact Take.head | apply Take.tail)); done)); exact rfl)))
      (apply Par.quiet _ [true, true, true]; exact rfl; decide +kernel; exact rfl; intro R; refine ⟨_, (by (focus ((repeat (first | exact SelT.nil | apply SelT.yes | apply SelT.no)); done))), ?_⟩;
           (first | (apply EvW.move; exact rfl)))
      (apply Par.quiet _ [true, true, true]; exact rfl; decide +kernel; exact rfl; intro R; refine ⟨_, (by (focus ((repeat (first | exact SelT.nil | apply SelT.yes | apply SelT.no)); done))), ?_⟩;
           (first | (apply EvW.nilPtr; exact rfl)))
      (apply Par.quiet _ [true, true, true]; exact rfl; decide +kernel; exact rfl; intro R; refine ⟨_, (by (focus ((repeat (first | exact SelT.nil | apply SelT.yes | apply SelT.no)); done))), ?_⟩;
           (first | (apply EvW.fieldAddr0; exact rfl; exact FldC.eq)))
      (apply Par.quiet _ [true, true, true]; exact rfl; decide +kernel; exact rfl; intro R; refine ⟨_, (by (focus ((repeat (first | exact SelT.nil | apply SelT.yes | apply SelT.no)); done))), ?_⟩;
           (first | (apply EvW.load; exact rfl; exact ScalC.eq; (focus ((repeat (first | exact Take.head | apply Take.tail)); done)); exact rfl)))
      (apply Par.quiet _ [true, true, true]; exact rfl; decide +kernel; exact rfl; intro R; refine ⟨_, (by (focus ((repeat (first | exact SelT.nil | apply SelT.yes | apply SelT.no)); done))), ?_⟩;
           (first | (apply EvW.cmpF; exact rfl; exact rfl; exact rfl; omega)))
      (apply Par.quiet _ [true, true, true]; exact rfl; decide +kernel; exact rfl; intro R; refine ⟨_, (by (focus ((repeat (first | exact SelT.nil | apply SelT.yes | apply SelT.no)); done))), ?_⟩;
           (first | (apply EvW.assign; exact rfl)))
      exact Par.nil
    · repeat (first | exact AllN.nil | (apply AllN.cons; (intro c x; (repeat (first | exact IndA.nil | (apply IndA.skip; decide +kernel) | apply IndA.same))))) 
    · repeat (first | exact AllN.nil | (apply AllN.cons; (intro c x; (repeat (first | exact IndT.nil | (apply IndT.skip; decide +kernel) | apply IndT.same))))) 
    · exact fun _ => rfl
    intro c
    refine ⟨_, (by (focus ((repeat (first | exact SelT.nil | apply SelT.yes | apply SelT.no)); done))), ?_⟩
    apply WE.writ
    · (focus ((repeat (first | exact Writ.nil | apply Writ.some | apply Writ.none)); done))
    repeat first
      | (apply WL.q; exact rfl; exact rfl; exact rfl; (first | (apply EvW.move; exact rfl) | (apply EvW.assign; exact rfl) | (apply EvW.fieldAddr0; exact rfl; exact FldC.eq) | (apply EvW.load; exact rfl; exact ScalC.eq; (focus ((repeat (first | exact Take.head | apply Take.tail)); done)); exact rfl) | (apply EvW.cmpF; exact rfl; exact rfl; exact rfl; omega)))
      | refine WC.seq ?_ | refine WC.region ?_ | refine WL.nil ?_ | refine WE.next ?_ | refine WC.condF rfl ?_
    repeat refine WC.seq ?_
    refine WC.keep (xs := [.blk b #[i64 (m).peer, i64 (m).age, i64 (m).last, v] 58, .own 3 1 (v) (ns).length ((ns).map i64), .blk q #[i64 (x).p, i64 (x).n, i64 (x).s, str (x).t] 23]) (by (focus ((repeat (first | exact TakeL.nil | apply TakeL.cons | exact Take.head | apply Take.tail)); done))) ?_
    apply WC.par _ (fun c : Ch => [.blk b #[i64 (m).peer, i64 (m).age, i64 (m).last, v] 58, .own 3 1 (v) (ns).length ((ns).map i64), .blk q #[i64 (x).p, i64 (x).n, i64 (x).s, str (x).t] 23]) [none, none, none] [none, none, none] [] Try.mixed
    · (focus ((repeat (first | exact Restr.nil | (apply Restr.keep; exact rfl; exact rfl) | (apply Restr.drop; exact rfl))); done))
    · intro c; exact (by (focus ((repeat (first | exact SelT.nil | apply SelT.yes | apply SelT.no)); done)))
    · exact rfl
    · decide +kernel
    · decide +kernel
    · intro c
      (apply Par.quiet _ [true, true, true]; exact rfl; decide +kernel; exact rfl; intro R; refine ⟨_, (by (focus ((repeat (first | exact SelT.nil | apply SelT.yes | apply SelT.no)); done))), ?_⟩;
           (first | (apply EvW.move; exact rfl)))
      (apply Par.quiet _ [true, true, true]; exact rfl; decide +kernel; exact rfl; intro R; refine ⟨_, (by (focus ((repeat (first | exact SelT.nil | apply SelT.yes | apply SelT.no)); done))), ?_⟩;
           (first | (apply EvW.fieldAddr0; exact rfl; exact FldC.eq)))
      (apply Par.quiet _ [true, true, true]; exact rfl; decide +kernel; exact rfl; intro R; refine ⟨_, (by (focus ((repeat (first | exact SelT.nil | apply SelT.yes | apply SelT.no)); done))), ?_⟩;
           (first | (apply EvW.load; exact rfl; exact ScalC.eq; (focus ((repeat (first | exact Take.head | apply Take.tail)); done)); exact rfl)))
      (apply Par.quiet _ [true, true, true]; exact rfl; decide +kernel; exact rfl; intro R; refine ⟨_, (by (focus ((repeat (first | exact SelT.nil | apply SelT.yes | apply SelT.no)); done))), ?_⟩;
           (first | (apply EvW.move; exact rfl)))
      (apply Par.quiet _ [true, true, true]; exact rfl; decide +kernel; exact rfl; intro R; refine ⟨_, (by (focus ((repeat (first | exact SelT.nil | apply SelT.yes | apply SelT.no)); done))), ?_⟩;
           (first | (apply EvW.nilPtr; exact rfl)))
      (apply Par.quiet _ [true, true, true]; exact rfl; decide +kernel; exact rfl; intro R; refine ⟨_, (by (focus ((repeat (first | exact SelT.nil | apply SelT.yes | apply SelT.no)); done))), ?_⟩;
           (first | (apply EvW.fieldAddr0; exact rfl; exact FldC.eq)))
      (apply Par.quiet _ [true, true, true]; exact rfl; decide +kernel; exact rfl; intro R; refine ⟨_, (by (focus ((repeat (first | exact SelT.nil | apply SelT.yes | apply SelT.no)); done))), ?_⟩;
           (first | (apply EvW.load; exact rfl; exact ScalC.eq; (focus ((repeat (first | exact Take.head | apply Take.tail)); done)); exact rfl)))
      apply Par.quiet _ [true, true, true]
      · exact rfl
      · decide +kernel
      · exact rfl
      · intro R
        refine ⟨_, (by (focus ((repeat (first | exact SelT.nil | apply SelT.yes | apply SelT.no)); done))), ?_⟩
        apply EvW.callK ([])
        · exact rfl
        · exact fun w => Try.call45 _ w
        · (focus ((repeat (first | exact TakeL.nil | apply TakeL.cons | exact Take.head | apply Take.tail)); done))
        · exact fun w1 S1 hS1 hs1 ho1 => fresh_spec now x.s m.age false w1 S1 hS1 hs.1 hw (by rw [decide_eq_false (show ¬ now - x.s ≤ m.age by omega), Bool.and_false])
        · exact fun _ _ h => h
      (apply Par.quiet _ [true, true, true]; exact rfl; decide +kernel; exact rfl; intro R; refine ⟨_, (by (focus ((repeat (first | exact SelT.nil | apply SelT.yes | apply SelT.no)); done))), ?_⟩;
           (first | (apply EvW.notF; exact rfl)))
      (apply Par.quiet _ [true, true, true]; exact rfl; decide +kernel; exact rfl; intro R; refine ⟨_, (by (focus ((repeat (first | exact SelT.nil | apply SelT.yes | apply SelT.no)); done))), ?_⟩;
           (first | (apply EvW.assign; exact rfl)))
      exact Par.nil
    · repeat (first | exact AllN.nil | (apply AllN.cons; (intro c x; (repeat (first | exact IndA.nil | (apply IndA.skip; decide +kernel) | apply IndA.same))))) 
    · repeat (first | exact AllN.nil | (apply AllN.cons; (intro c x; (repeat (first | exact IndT.nil | (apply IndT.skip; decide +kernel) | apply IndT.same))))) 
    · exact fun _ => rfl
    intro c
    refine ⟨_, (by (focus ((repeat (first | exact SelT.nil | apply SelT.yes | apply SelT.no)); done))), ?_⟩
    apply WE.writ
    · (focus ((repeat (first | exact Writ.nil | apply Writ.some | apply Writ.none)); done))
    repeat first
      | (apply WL.q; exact rfl; exact rfl; exact rfl; (first | (apply EvW.assign; exact rfl)))
      | refine WC.seq ?_ | refine WC.region ?_ | refine WL.nil ?_ | refine WE.next ?_ | refine WC.condT rfl ?_ | refine WC.ret ?_ | refine WE.passRet ?_ | refine WE.outRet ?_
    refine WE.keep (xs := [.blk b #[i64 (m).peer, i64 (m).age, i64 (m).last, v] 58, .own 3 1 (v) (ns).length ((ns).map i64)]) (by (focus ((repeat (first | exact TakeL.nil | apply TakeL.cons | exact Take.head | apply Take.tail)); done))) ?_
    refine WE.retN (l := [6, 7]) rfl rfl rfl ?_
    exact ⟨rfl, v, rfl⟩
  rw [if_neg ha]
  have hfr : (decide (x.s ≤ now) && decide (now - x.s ≤ m.age)) = true := by rw [decide_eq_true (show x.s ≤ now by omega), decide_eq_true (show now - x.s ≤ m.age by omega)]; rfl
  by_cases hd : x.s ≤ m.last
  · rw [if_pos hd]
    repeat first
      | (apply WL.q; exact rfl; exact rfl; exact rfl; (first | (apply EvW.move; exact rfl) | (apply EvW.assign; exact rfl) | (apply EvW.cmpF; exact rfl; exact rfl; exact rfl; omega)))
      | refine WC.seq ?_ | refine WC.region ?_ | refine WL.nil ?_ | refine WE.next ?_ | refine WC.block ?_ | refine WC.skip ?_ | refine WC.condF rfl ?_ | (apply WL.store; exact rfl; exact rfl; (first | assumption | exact rfl); exact SzC.eq; (first | assumption | exact rfl); (focus ((repeat (first | apply UpdC.head | apply UpdC.tail | exact SetMany.nil | apply SetMany.cons | apply SetMany.succ)); done)))
    repeat refine WC.seq ?_
    refine WC.keep (xs := [.blk b #[i64 (m).peer, i64 (m).age, i64 (m).last, v] 58, .own 3 1 (v) (ns).length ((ns).map i64), .blk q #[i64 (x).p, i64 (x).n, i64 (x).s, str (x).t] 23]) (by (focus ((repeat (first | exact TakeL.nil | apply TakeL.cons | exact Take.head | apply Take.tail)); done))) ?_
    apply WC.par _ (fun c : Ch => [.blk b #[i64 (m).peer, i64 (m).age, i64 (m).last, v] 58, .own 3 1 (v) (ns).length ((ns).map i64), .blk q #[i64 (x).p, i64 (x).n, i64 (x).s, str (x).t] 23]) [none, none, none] [none, none, none] [] Try.mixed
    · (focus ((repeat (first | exact Restr.nil | (apply Restr.keep; exact rfl; exact rfl) | (apply Restr.drop; exact rfl))); done))
    · intro c; exact (by (focus ((repeat (first | exact SelT.nil | apply SelT.yes | apply SelT.no)); done)))
    · exact rfl
    · decide +kernel
    · decide +kernel
    · intro c
      (apply Par.quiet _ [true, true, true]; exact rfl; decide +kernel; exact rfl; intro R; refine ⟨_, (by (focus ((repeat (first | exact SelT.nil | apply SelT.yes | apply SelT.no)); done))), ?_⟩;
           (first | (apply EvW.fieldAddr0; exact rfl; exact FldC.eq)))
      (apply Par.quiet _ [true, true, true]; exact rfl; decide +kernel; exact rfl; intro R; refine ⟨_, (by (focus ((repeat (first | exact SelT.nil | apply SelT.yes | apply SelT.no)); done))), ?_⟩;
           (first | (apply EvW.load; exact rfl; exact ScalC.eq; (focus ((repeat (first | exact Take.head | apply Take.tail)); done)); exact rfl)))
      (apply Par.quiet _ [true, true, true]; exact rfl; decide +kernel; exact rfl; intro R; refine ⟨_, (by (focus ((repeat (first | exact SelT.nil | apply SelT.yes | apply SelT.no)); done))), ?_⟩;
           (first | (apply EvW.move; exact rfl)))
      (apply Par.quiet _ [true, true, true]; exact rfl; decide +kernel; exact rfl; intro R; refine ⟨_, (by (focus ((repeat (first | exact SelT.nil | apply SelT.yes | apply SelT.no)); done))), ?_⟩;
           (first | (apply EvW.nilPtr; exact rfl)))
      (apply Par.quiet _ [true, true, true]; exact rfl; decide +kernel; exact rfl; intro R; refine ⟨_, (by (focus ((repeat (first | exact SelT.nil | apply SelT.yes | apply SelT.no)); done))), ?_⟩;
           (first | (apply EvW.fieldAddr0; exact rfl; exact FldC.eq)))
      (apply Par.quiet _ [true, true, true]; exact rfl; decide +kernel; exact rfl; intro R; refine ⟨_, (by (focus ((repeat (first | exact SelT.nil | apply SelT.yes | apply SelT.no)); done))), ?_⟩;
           (first | (apply EvW.load; exact rfl; exact ScalC.eq; (focus ((repeat (first | exact Take.head | apply Take.tail)); done)); exact rfl)))
      (apply Par.quiet _ [true, true, true]; exact rfl; decide +kernel; exact rfl; intro R; refine ⟨_, (by (focus ((repeat (first | exact SelT.nil | apply SelT.yes | apply SelT.no)); done))), ?_⟩;
           (first | (apply EvW.cmpF; exact rfl; exact rfl; exact rfl; omega)))
      (apply Par.quiet _ [true, true, true]; exact rfl; decide +kernel; exact rfl; intro R; refine ⟨_, (by (focus ((repeat (first | exact SelT.nil | apply SelT.yes | apply SelT.no)); done))), ?_⟩;
           (first | (apply EvW.assign; exact rfl)))
      exact Par.nil
    · repeat (first | exact AllN.nil | (apply AllN.cons; (intro c x; (repeat (first | exact IndA.nil | (apply IndA.skip; decide +kernel) | apply IndA.same))))) 
    · repeat (first | exact AllN.nil | (apply AllN.cons; (intro c x; (repeat (first | exact IndT.nil | (apply IndT.skip; decide +kernel) | apply IndT.same))))) 
    · exact fun _ => rfl
    intro c
    refine ⟨_, (by (focus ((repeat (first | exact SelT.nil | apply SelT.yes | apply SelT.no)); done))), ?_⟩
    apply WE.writ
    · (focus ((repeat (first | exact Writ.nil | apply Writ.some | apply Writ.none)); done))
    repeat first
      | (apply WL.q; exact rfl; exact rfl; exact rfl; (first | (apply EvW.move; exact rfl) | (apply EvW.assign; exact rfl) | (apply EvW.fieldAddr0; exact rfl; exact FldC.eq) | (apply EvW.load; exact rfl; exact ScalC.eq; (focus ((repeat (first | exact Take.head | apply Take.tail)); done)); exact rfl) | (apply EvW.cmpF; exact rfl; exact rfl; exact rfl; omega)))
      | refine WC.seq ?_ | refine WC.region ?_ | refine WL.nil ?_ | refine WE.next ?_ | refine WC.condF rfl ?_
    repeat refine WC.seq ?_
    refine WC.keep (xs := [.blk b #[i64 (m).peer, i64 (m).age, i64 (m).last, v] 58, .own 3 1 (v) (ns).length ((ns).map i64), .blk q #[i64 (x).p, i64 (x).n, i64 (x).s, str (x).t] 23]) (by (focus ((repeat (first | exact TakeL.nil | apply TakeL.cons | exact Take.head | apply Take.tail)); done))) ?_
    apply WC.par _ (fun c : Ch => [.blk b #[i64 (m).peer, i64 (m).age, i64 (m).last, v] 58, .own 3 1 (v) (ns).length ((ns).map i64), .blk q #[i64 (x).p, i64 (x).n, i64 (x).s, str (x).t] 23]) [none, none, none] [none, none, none] [] Try.mixed
    · (focus ((repeat (first | exact Restr.nil | (apply Restr.keep; exact rfl; exact rfl) | (apply Restr.drop; exact rfl))); done))
    · intro c; exact (by (focus ((repeat (first | exact SelT.nil | apply SelT.yes | apply SelT.no)); done)))
    · exact rfl
    · decide +kernel
    · decide +kernel
    · intro c
      (apply Par.quiet _ [true, true, true]; exact rfl; decide +kernel; exact rfl; intro R; refine ⟨_, (by (focus ((repeat (first | exact SelT.nil | apply SelT.yes | apply SelT.no)); done))), ?_⟩;
           (first | (apply EvW.move; exact rfl)))
      (apply Par.quiet _ [true, true, true]; exact rfl; decide +kernel; exact rfl; intro R; refine ⟨_, (by (focus ((repeat (first | exact SelT.nil | apply SelT.yes | apply SelT.no)); done))), ?_⟩;
           (first | (apply EvW.fieldAddr0; exact rfl; exact FldC.eq)))
      (apply Par.quiet _ [true, true, true]; exact rfl; decide +kernel; exact rfl; intro R; refine ⟨_, (by (focus ((repeat (first | exact SelT.nil | apply SelT.yes | apply SelT.no)); done))), ?_⟩;
           (first | (apply EvW.load; exact rfl; exact ScalC.eq; (focus ((repeat (first | exact Take.head | apply Take.tail)); done)); exact rfl)))
      (apply Par.quiet _ [true, true, true]; exact rfl; decide +kernel; exact rfl; intro R; refine ⟨_, (by (focus ((repeat (first | exact SelT.nil | apply SelT.yes | apply SelT.no)); done))), ?_⟩;
           (first | (apply EvW.move; exact rfl)))
      (apply Par.quiet _ [true, true, true]; exact rfl; decide +kernel; exact rfl; intro R; refine ⟨_, (by (focus ((repeat (first | exact SelT.nil | apply SelT.yes | apply SelT.no)); done))), ?_⟩;
           (first | (apply EvW.nilPtr; exact rfl)))
      (apply Par.quiet _ [true, true, true]; exact rfl; decide +kernel; exact rfl; intro R; refine ⟨_, (by (focus ((repeat (first | exact SelT.nil | apply SelT.yes | apply SelT.no)); done))), ?_⟩;
           (first | (apply EvW.fieldAddr0; exact rfl; exact FldC.eq)))
      (apply Par.quiet _ [true, true, true]; exact rfl; decide +kernel; exact rfl; intro R; refine ⟨_, (by (focus ((repeat (first | exact SelT.nil | apply SelT.yes | apply SelT.no)); done))), ?_⟩;
           (first | (apply EvW.load; exact rfl; exact ScalC.eq; (focus ((repeat (first | exact Take.head | apply Take.tail)); done)); exact rfl)))
      apply Par.quiet _ [true, true, true]
      · exact rfl
      · decide +kernel
      · exact rfl
      · intro R
        refine ⟨_, (by (focus ((repeat (first | exact SelT.nil | apply SelT.yes | apply SelT.no)); done))), ?_⟩
        apply EvW.callK ([])
        · exact rfl
        · exact fun w => Try.call45 _ w
        · (focus ((repeat (first | exact TakeL.nil | apply TakeL.cons | exact Take.head | apply Take.tail)); done))
        · exact fun w1 S1 hS1 hs1 ho1 => fresh_spec now x.s m.age true w1 S1 hS1 hs.1 hw hfr
        · exact fun _ _ h => h
      (apply Par.quiet _ [true, true, true]; exact rfl; decide +kernel; exact rfl; intro R; refine ⟨_, (by (focus ((repeat (first | exact SelT.nil | apply SelT.yes | apply SelT.no)); done))), ?_⟩;
           (first | (apply EvW.notT; exact rfl)))
      (apply Par.quiet _ [true, true, true]; exact rfl; decide +kernel; exact rfl; intro R; refine ⟨_, (by (focus ((repeat (first | exact SelT.nil | apply SelT.yes | apply SelT.no)); done))), ?_⟩;
           (first | (apply EvW.assign; exact rfl)))
      exact Par.nil
    · repeat (first | exact AllN.nil | (apply AllN.cons; (intro c x; (repeat (first | exact IndA.nil | (apply IndA.skip; decide +kernel) | apply IndA.same))))) 
    · repeat (first | exact AllN.nil | (apply AllN.cons; (intro c x; (repeat (first | exact IndT.nil | (apply IndT.skip; decide +kernel) | apply IndT.same))))) 
    · exact fun _ => rfl
    intro c
    refine ⟨_, (by (focus ((repeat (first | exact SelT.nil | apply SelT.yes | apply SelT.no)); done))), ?_⟩
    apply WE.writ
    · (focus ((repeat (first | exact Writ.nil | apply Writ.some | apply Writ.none)); done))
    repeat first
      | refine WC.seq ?_ | refine WE.next ?_ | refine WC.condF rfl ?_
    repeat refine WC.seq ?_
    refine WC.keep (xs := [.blk b #[i64 (m).peer, i64 (m).age, i64 (m).last, v] 58, .own 3 1 (v) (ns).length ((ns).map i64), .blk q #[i64 (x).p, i64 (x).n, i64 (x).s, str (x).t] 23]) (by (focus ((repeat (first | exact TakeL.nil | apply TakeL.cons | exact Take.head | apply Take.tail)); done))) ?_
    apply WC.par _ (fun c : Ch => [.blk b #[i64 (m).peer, i64 (m).age, i64 (m).last, v] 58, .own 3 1 (v) (ns).length ((ns).map i64), .blk q #[i64 (x).p, i64 (x).n, i64 (x).s, str (x).t] 23]) [none, none, none] [none, none, none] [] Try.mixed
    · (focus ((repeat (first | exact Restr.nil | (apply Restr.keep; exact rfl; exact rfl) | (apply Restr.drop; exact rfl))); done))
    · intro c; exact (by (focus ((repeat (first | exact SelT.nil | apply SelT.yes | apply SelT.no)); done)))
    · exact rfl
    · decide +kernel
    · decide +kernel
    · intro c
      (apply Par.quiet _ [true, true, true]; exact rfl; decide +kernel; exact rfl; intro R; refine ⟨_, (by (focus ((repeat (first | exact SelT.nil | apply SelT.yes | apply SelT.no)); done))), ?_⟩;
           (first | (apply EvW.fieldAddr0; exact rfl; exact FldC.eq)))
      (apply Par.quiet _ [true, true, true]; exact rfl; decide +kernel; exact rfl; intro R; refine ⟨_, (by (focus ((repeat (first | exact SelT.nil | apply SelT.yes | apply SelT.no)); done))), ?_⟩;
           (first | (apply EvW.load; exact rfl; exact ScalC.eq; (focus ((repeat (first | exact Take.head | apply Take.tail)); done)); exact rfl)))
      (apply Par.quiet _ [true, true, true]; exact rfl; decide +kernel; exact rfl; intro R; refine ⟨_, (by (focus ((repeat (first | exact SelT.nil | apply SelT.yes | apply SelT.no)); done))), ?_⟩;
           (first | (apply EvW.move; exact rfl)))
      (apply Par.quiet _ [true, true, true]; exact rfl; decide +kernel; exact rfl; intro R; refine ⟨_, (by (focus ((repeat (first | exact SelT.nil | apply SelT.yes | apply SelT.no)); done))), ?_⟩;
           (first | (apply EvW.nilPtr; exact rfl)))
      (apply Par.quiet _ [true, true, true]; exact rfl; decide +kernel; exact rfl; intro R; refine ⟨_, (by (focus ((repeat (first | exact SelT.nil | apply SelT.yes | apply SelT.no)); done))), ?_⟩;
           (first | (apply EvW.fieldAddr0; exact rfl; exact FldC.eq)))
      (apply Par.quiet _ [true, true, true]; exact rfl; decide +kernel; exact rfl; intro R; refine ⟨_, (by (focus ((repeat (first | exact SelT.nil | apply SelT.yes | apply SelT.no)); done))), ?_⟩;
           (first | (apply EvW.load; exact rfl; exact ScalC.eq; (focus ((repeat (first | exact Take.head | apply Take.tail)); done)); exact rfl)))
      (apply Par.quiet _ [true, true, true]; exact rfl; decide +kernel; exact rfl; intro R; refine ⟨_, (by (focus ((repeat (first | exact SelT.nil | apply SelT.yes | apply SelT.no)); done))), ?_⟩;
           (first | (apply EvW.cmpT; exact rfl; exact rfl; exact rfl; omega)))
      (apply Par.quiet _ [true, true, true]; exact rfl; decide +kernel; exact rfl; intro R; refine ⟨_, (by (focus ((repeat (first | exact SelT.nil | apply SelT.yes | apply SelT.no)); done))), ?_⟩;
           (first | (apply EvW.assign; exact rfl)))
      exact Par.nil
    · repeat (first | exact AllN.nil | (apply AllN.cons; (intro c x; (repeat (first | exact IndA.nil | (apply IndA.skip; decide +kernel) | apply IndA.same))))) 
    · repeat (first | exact AllN.nil | (apply AllN.cons; (intro c x; (repeat (first | exact IndT.nil | (apply IndT.skip; decide +kernel) | apply IndT.same))))) 
    · exact fun _ => rfl
    intro c
    refine ⟨_, (by (focus ((repeat (first | exact SelT.nil | apply SelT.yes | apply SelT.no)); done))), ?_⟩
    apply WE.writ
    · (focus ((repeat (first | exact Writ.nil | apply Writ.some | apply Writ.none)); done))
    repeat first
      | (apply WL.q; exact rfl; exact rfl; exact rfl; (first | (apply EvW.assign; exact rfl)))
      | refine WC.seq ?_ | refine WC.region ?_ | refine WL.nil ?_ | refine WE.next ?_ | refine WC.condT rfl ?_ | refine WC.ret ?_ | refine WE.passRet ?_ | refine WE.outRet ?_
    refine WE.keep (xs := [.blk b #[i64 (m).peer, i64 (m).age, i64 (m).last, v] 58, .own 3 1 (v) (ns).length ((ns).map i64)]) (by (focus ((repeat (first | exact TakeL.nil | apply TakeL.cons | exact Take.head | apply Take.tail)); done))) ?_
    refine WE.retN (l := [6, 7]) rfl rfl rfl ?_
    exact ⟨rfl, v, rfl⟩
  rw [if_neg hd]
  dsimp only
  rw [note_last, note_peer, note_age, if_pos rfl]
  repeat first
    | (apply WL.q; exact rfl; exact rfl; exact rfl; (first | (apply EvW.move; exact rfl) | (apply EvW.assign; exact rfl) | (apply EvW.cmpF; exact rfl; exact rfl; exact rfl; omega)))
    | refine WC.seq ?_ | refine WC.region ?_ | refine WL.nil ?_ | refine WE.next ?_ | refine WC.block ?_ | refine WC.skip ?_ | refine WC.condF rfl ?_ | (apply WL.store; exact rfl; exact rfl; (first | assumption | exact rfl); exact SzC.eq; (first | assumption | exact rfl); (focus ((repeat (first | apply UpdC.head | apply UpdC.tail | exact SetMany.nil | apply SetMany.cons | apply SetMany.succ)); done)))
  repeat refine WC.seq ?_
  refine WC.keep (xs := [.blk b #[i64 (m).peer, i64 (m).age, i64 (m).last, v] 58, .own 3 1 (v) (ns).length ((ns).map i64), .blk q #[i64 (x).p, i64 (x).n, i64 (x).s, str (x).t] 23]) (by (focus ((repeat (first | exact TakeL.nil | apply TakeL.cons | exact Take.head | apply Take.tail)); done))) ?_
  apply WC.par _ (fun c : Ch => [.blk b #[i64 (m).peer, i64 (m).age, i64 (m).last, v] 58, .own 3 1 (v) (ns).length ((ns).map i64), .blk q #[i64 (x).p, i64 (x).n, i64 (x).s, str (x).t] 23]) [none, none, none] [none, none, none] [] Try.mixed
  · (focus ((repeat (first | exact Restr.nil | (apply Restr.keep; exact rfl; exact rfl) | (apply Restr.drop; exact rfl))); done))
  · intro c; exact (by (focus ((repeat (first | exact SelT.nil | apply SelT.yes | apply SelT.no)); done)))
  · exact rfl
  · decide +kernel
  · decide +kernel
  · intro c
    (apply Par.quiet _ [true, true, true]; exact rfl; decide +kernel; exact rfl; intro R; refine ⟨_, (by (focus ((repeat (first | exact SelT.nil | apply SelT.yes | apply SelT.no)); done))), ?_⟩;
         (first | (apply EvW.fieldAddr0; exact rfl; exact FldC.eq)))
    (apply Par.quiet _ [true, true, true]; exact rfl; decide +kernel; exact rfl; intro R; refine ⟨_, (by (focus ((repeat (first | exact SelT.nil | apply SelT.yes | apply SelT.no)); done))), ?_⟩;
         (first | (apply EvW.load; exact rfl; exact ScalC.eq; (focus ((repeat (first | exact Take.head | apply Take.tail)); done)); exact rfl)))
    (apply Par.quiet _ [true, true, true]; exact rfl; decide +kernel; exact rfl; intro R; refine ⟨_, (by (focus ((repeat (first | exact SelT.nil | apply SelT.yes | apply SelT.no)); done))), ?_⟩;
         (first | (apply EvW.move; exact rfl)))
    (apply Par.quiet _ [true, true, true]; exact rfl; decide +kernel; exact rfl; intro R; refine ⟨_, (by (focus ((repeat (first | exact SelT.nil | apply SelT.yes | apply SelT.no)); done))), ?_⟩;
         (first | (apply EvW.nilPtr; exact rfl)))
    (apply Par.quiet _ [true, true, true]; exact rfl; decide +kernel; exact rfl; intro R; refine ⟨_, (by (focus ((repeat (first | exact SelT.nil | apply SelT.yes | apply SelT.no)); done))), ?_⟩;
         (first | (apply EvW.fieldAddr0; exact rfl; exact FldC.eq)))
    (apply Par.quiet _ [true, true, true]; exact rfl; decide +kernel; exact rfl; intro R; refine ⟨_, (by (focus ((repeat (first | exact SelT.nil | apply SelT.yes | apply SelT.no)); done))), ?_⟩;
         (first | (apply EvW.load; exact rfl; exact ScalC.eq; (focus ((repeat (first | exact Take.head | apply Take.tail)); done)); exact rfl)))
    (apply Par.quiet _ [true, true, true]; exact rfl; decide +kernel; exact rfl; intro R; refine ⟨_, (by (focus ((repeat (first | exact SelT.nil | apply SelT.yes | apply SelT.no)); done))), ?_⟩;
         (first | (apply EvW.cmpF; exact rfl; exact rfl; exact rfl; omega)))
    (apply Par.quiet _ [true, true, true]; exact rfl; decide +kernel; exact rfl; intro R; refine ⟨_, (by (focus ((repeat (first | exact SelT.nil | apply SelT.yes | apply SelT.no)); done))), ?_⟩;
         (first | (apply EvW.assign; exact rfl)))
    exact Par.nil
  · repeat (first | exact AllN.nil | (apply AllN.cons; (intro c x; (repeat (first | exact IndA.nil | (apply IndA.skip; decide +kernel) | apply IndA.same))))) 
  · repeat (first | exact AllN.nil | (apply AllN.cons; (intro c x; (repeat (first | exact IndT.nil | (apply IndT.skip; decide +kernel) | apply IndT.same))))) 
  · exact fun _ => rfl
  intro c
  refine ⟨_, (by (focus ((repeat (first | exact SelT.nil | apply SelT.yes | apply SelT.no)); done))), ?_⟩
  apply WE.writ
  · (focus ((repeat (first | exact Writ.nil | apply Writ.some | apply Writ.none)); done))
  repeat first
    | (apply WL.q; exact rfl; exact rfl; exact rfl; (first | (apply EvW.move; exact rfl) | (apply EvW.assign; exact rfl) | (apply EvW.fieldAddr0; exact rfl; exact FldC.eq) | (apply EvW.load; exact rfl; exact ScalC.eq; (focus ((repeat (first | exact Take.head | apply Take.tail)); done)); exact rfl) | (apply EvW.cmpF; exact rfl; exact rfl; exact rfl; omega)))
    | refine WC.seq ?_ | refine WC.region ?_ | refine WL.nil ?_ | refine WE.next ?_ | refine WC.condF rfl ?_
  repeat refine WC.seq ?_
  refine WC.keep (xs := [.blk b #[i64 (m).peer, i64 (m).age, i64 (m).last, v] 58, .own 3 1 (v) (ns).length ((ns).map i64), .blk q #[i64 (x).p, i64 (x).n, i64 (x).s, str (x).t] 23]) (by (focus ((repeat (first | exact TakeL.nil | apply TakeL.cons | exact Take.head | apply Take.tail)); done))) ?_
  apply WC.par _ (fun c : Ch => [.blk b #[i64 (m).peer, i64 (m).age, i64 (m).last, v] 58, .own 3 1 (v) (ns).length ((ns).map i64), .blk q #[i64 (x).p, i64 (x).n, i64 (x).s, str (x).t] 23]) [none, none, none] [none, none, none] [] Try.mixed
  · (focus ((repeat (first | exact Restr.nil | (apply Restr.keep; exact rfl; exact rfl) | (apply Restr.drop; exact rfl))); done))
  · intro c; exact (by (focus ((repeat (first | exact SelT.nil | apply SelT.yes | apply SelT.no)); done)))
  · exact rfl
  · decide +kernel
  · decide +kernel
  · intro c
    (apply Par.quiet _ [true, true, true]; exact rfl; decide +kernel; exact rfl; intro R; refine ⟨_, (by (focus ((repeat (first | exact SelT.nil | apply SelT.yes | apply SelT.no)); done))), ?_⟩;
         (first | (apply EvW.move; exact rfl)))
    (apply Par.quiet _ [true, true, true]; exact rfl; decide +kernel; exact rfl; intro R; refine ⟨_, (by (focus ((repeat (first | exact SelT.nil | apply SelT.yes | apply SelT.no)); done))), ?_⟩;
         (first | (apply EvW.fieldAddr0; exact rfl; exact FldC.eq)))
    (apply Par.quiet _ [true, true, true]; exact rfl; decide +kernel; exact rfl; intro R; refine ⟨_, (by (focus ((repeat (first | exact SelT.nil | apply SelT.yes | apply SelT.no)); done))), ?_⟩;
         (first | (apply EvW.load; exact rfl; exact ScalC.eq; (focus ((repeat (first | exact Take.head | apply Take.tail)); done)); exact rfl)))
    (apply Par.quiet _ [true, true, true]; exact rfl; decide +kernel; exact rfl; intro R; refine ⟨_, (by (focus ((repeat (first | exact SelT.nil | apply SelT.yes | apply SelT.no)); done))), ?_⟩;
         (first | (apply EvW.move; exact rfl)))
    (apply Par.quiet _ [true, true, true]; exact rfl; decide +kernel; exact rfl; intro R; refine ⟨_, (by (focus ((repeat (first | exact SelT.nil | apply SelT.yes | apply SelT.no)); done))), ?_⟩;
         (first | (apply EvW.nilPtr; exact rfl)))
    (apply Par.quiet _ [true, true, true]; exact rfl; decide +kernel; exact rfl; intro R; refine ⟨_, (by (focus ((repeat (first | exact SelT.nil | apply SelT.yes | apply SelT.no)); done))), ?_⟩;
         (first | (apply EvW.fieldAddr0; exact rfl; exact FldC.eq)))
    (apply Par.quiet _ [true, true, true]; exact rfl; decide +kernel; exact rfl; intro R; refine ⟨_, (by (focus ((repeat (first | exact SelT.nil | apply SelT.yes | apply SelT.no)); done))), ?_⟩;
         (first | (apply EvW.load; exact rfl; exact ScalC.eq; (focus ((repeat (first | exact Take.head | apply Take.tail)); done)); exact rfl)))
    apply Par.quiet _ [true, true, true]
    · exact rfl
    · decide +kernel
    · exact rfl
    · intro R
      refine ⟨_, (by (focus ((repeat (first | exact SelT.nil | apply SelT.yes | apply SelT.no)); done))), ?_⟩
      apply EvW.callK ([])
      · exact rfl
      · exact fun w => Try.call45 _ w
      · (focus ((repeat (first | exact TakeL.nil | apply TakeL.cons | exact Take.head | apply Take.tail)); done))
      · exact fun w1 S1 hS1 hs1 ho1 => fresh_spec now x.s m.age true w1 S1 hS1 hs.1 hw hfr
      · exact fun _ _ h => h
    (apply Par.quiet _ [true, true, true]; exact rfl; decide +kernel; exact rfl; intro R; refine ⟨_, (by (focus ((repeat (first | exact SelT.nil | apply SelT.yes | apply SelT.no)); done))), ?_⟩;
         (first | (apply EvW.notT; exact rfl)))
    (apply Par.quiet _ [true, true, true]; exact rfl; decide +kernel; exact rfl; intro R; refine ⟨_, (by (focus ((repeat (first | exact SelT.nil | apply SelT.yes | apply SelT.no)); done))), ?_⟩;
         (first | (apply EvW.assign; exact rfl)))
    exact Par.nil
  · repeat (first | exact AllN.nil | (apply AllN.cons; (intro c x; (repeat (first | exact IndA.nil | (apply IndA.skip; decide +kernel) | apply IndA.same))))) 
  · repeat (first | exact AllN.nil | (apply AllN.cons; (intro c x; (repeat (first | exact IndT.nil | (apply IndT.skip; decide +kernel) | apply IndT.same))))) 
  · exact fun _ => rfl
  intro c
  refine ⟨_, (by (focus ((repeat (first | exact SelT.nil | apply SelT.yes | apply SelT.no)); done))), ?_⟩
  apply WE.writ
  · (focus ((repeat (first | exact Writ.nil | apply Writ.some | apply Writ.none)); done))
  repeat first
    | refine WC.seq ?_ | refine WE.next ?_ | refine WC.condF rfl ?_
  repeat refine WC.seq ?_
  refine WC.keep (xs := [.blk b #[i64 (m).peer, i64 (m).age, i64 (m).last, v] 58, .own 3 1 (v) (ns).length ((ns).map i64), .blk q #[i64 (x).p, i64 (x).n, i64 (x).s, str (x).t] 23]) (by (focus ((repeat (first | exact TakeL.nil | apply TakeL.cons | exact Take.head | apply Take.tail)); done))) ?_
  apply WC.par _ (fun c : Ch => [.blk b #[i64 (m).peer, i64 (m).age, i64 (m).last, v] 58, .own 3 1 (v) (ns).length ((ns).map i64), .blk q #[i64 (x).p, i64 (x).n, i64 (x).s, str (x).t] 23]) [none, none, none] [none, none, none] [] Try.mixed
  · (focus ((repeat (first | exact Restr.nil | (apply Restr.keep; exact rfl; exact rfl) | (apply Restr.drop; exact rfl))); done))
  · intro c; exact (by (focus ((repeat (first | exact SelT.nil | apply SelT.yes | apply SelT.no)); done)))
  · exact rfl
  · decide +kernel
  · decide +kernel
  · intro c
    (apply Par.quiet _ [true, true, true]; exact rfl; decide +kernel; exact rfl; intro R; refine ⟨_, (by (focus ((repeat (first | exact SelT.nil | apply SelT.yes | apply SelT.no)); done))), ?_⟩;
         (first | (apply EvW.fieldAddr0; exact rfl; exact FldC.eq)))
    (apply Par.quiet _ [true, true, true]; exact rfl; decide +kernel; exact rfl; intro R; refine ⟨_, (by (focus ((repeat (first | exact SelT.nil | apply SelT.yes | apply SelT.no)); done))), ?_⟩;
         (first | (apply EvW.load; exact rfl; exact ScalC.eq; (focus ((repeat (first | exact Take.head | apply Take.tail)); done)); exact rfl)))
    (apply Par.quiet _ [true, true, true]; exact rfl; decide +kernel; exact rfl; intro R; refine ⟨_, (by (focus ((repeat (first | exact SelT.nil | apply SelT.yes | apply SelT.no)); done))), ?_⟩;
         (first | (apply EvW.move; exact rfl)))
    (apply Par.quiet _ [true, true, true]; exact rfl; decide +kernel; exact rfl; intro R; refine ⟨_, (by (focus ((repeat (first | exact SelT.nil | apply SelT.yes | apply SelT.no)); done))), ?_⟩;
         (first | (apply EvW.nilPtr; exact rfl)))
    (apply Par.quiet _ [true, true, true]; exact rfl; decide +kernel; exact rfl; intro R; refine ⟨_, (by (focus ((repeat (first | exact SelT.nil | apply SelT.yes | apply SelT.no)); done))), ?_⟩;
         (first | (apply EvW.fieldAddr0; exact rfl; exact FldC.eq)))
    (apply Par.quiet _ [true, true, true]; exact rfl; decide +kernel; exact rfl; intro R; refine ⟨_, (by (focus ((repeat (first | exact SelT.nil | apply SelT.yes | apply SelT.no)); done))), ?_⟩;
         (first | (apply EvW.load; exact rfl; exact ScalC.eq; (focus ((repeat (first | exact Take.head | apply Take.tail)); done)); exact rfl)))
    (apply Par.quiet _ [true, true, true]; exact rfl; decide +kernel; exact rfl; intro R; refine ⟨_, (by (focus ((repeat (first | exact SelT.nil | apply SelT.yes | apply SelT.no)); done))), ?_⟩;
         (first | (apply EvW.cmpF; exact rfl; exact rfl; exact rfl; omega)))
    (apply Par.quiet _ [true, true, true]; exact rfl; decide +kernel; exact rfl; intro R; refine ⟨_, (by (focus ((repeat (first | exact SelT.nil | apply SelT.yes | apply SelT.no)); done))), ?_⟩;
         (first | (apply EvW.assign; exact rfl)))
    exact Par.nil
  · repeat (first | exact AllN.nil | (apply AllN.cons; (intro c x; (repeat (first | exact IndA.nil | (apply IndA.skip; decide +kernel) | apply IndA.same))))) 
  · repeat (first | exact AllN.nil | (apply AllN.cons; (intro c x; (repeat (first | exact IndT.nil | (apply IndT.skip; decide +kernel) | apply IndT.same))))) 
  · exact fun _ => rfl
  intro c
  refine ⟨_, (by (focus ((repeat (first | exact SelT.nil | apply SelT.yes | apply SelT.no)); done))), ?_⟩
  apply WE.writ
  · (focus ((repeat (first | exact Writ.nil | apply Writ.some | apply Writ.none)); done))
  repeat first
    | (apply WL.q; exact rfl; exact rfl; exact rfl; (first | (apply EvW.move; exact rfl) | (apply EvW.nilPtr; exact rfl) | (apply EvW.fieldAddr0; exact rfl; exact FldC.eq) | (apply EvW.load; exact rfl; exact ScalC.eq; (focus ((repeat (first | exact Take.head | apply Take.tail)); done)); exact rfl)))
    | refine WC.seq ?_ | refine WC.region ?_ | refine WL.nil ?_ | refine WE.next ?_ | refine WC.skip ?_ | refine WE.out ?_ | refine WC.condF rfl ?_ | (apply WL.store; exact rfl; exact rfl; (first | assumption | exact rfl); exact SzC.eq; (first | assumption | exact rfl); (focus ((repeat (first | apply UpdC.head | apply UpdC.tail | exact SetMany.nil | apply SetMany.cons | apply SetMany.succ)); done)))
  repeat refine WC.seq ?_
  refine WC.keep (xs := [.blk q #[i64 (x).p, i64 (x).n, i64 (x).s, str (x).t] 23, .own 3 1 v ns.length (ns.map i64), .blk b #[i64 m.peer, i64 m.age, i64 x.s, v] 58]) (by (focus ((repeat (first | exact TakeL.nil | apply TakeL.cons | exact Take.head | apply Take.tail)); done))) ?_
  apply WC.par _ (fun c : Ch => [.blk q #[i64 (x).p, i64 (x).n, i64 (x).s, str (x).t] 23, .own 3 1 v ns.length (ns.map i64), .blk (c 7).1 #[i64 x.n] 3, .own 3 1 ((c 8).2) (ns.length + 1) (ns.map i64 ++ [i64 x.n]), .blk b #[i64 m.peer, i64 m.age, i64 x.s, v] 58, .blk b #[i64 m.peer, i64 m.age, i64 x.s, (c 8).2] 58]) [none, none, some 7, some 8, none, some 11] [none, some 8, some 8, none, some 11, none] [(7, fun x => .slice (some ⟨x.1, 0, none⟩) 1 1), (8, fun x => x.2)] Try.mixed
  · (focus ((repeat (first | exact Restr.nil | (apply Restr.keep; exact rfl; exact rfl) | (apply Restr.drop; exact rfl))); done))
  · intro c; exact (by (focus ((repeat (first | exact SelT.nil | apply SelT.yes | apply SelT.no)); done)))
  · exact rfl
  · decide +kernel
  · decide +kernel
  · intro c
    (apply Par.quiet _ [true, false, false, false, true, false]; exact rfl; decide +kernel; exact rfl; intro R; refine ⟨_, (by (focus ((repeat (first | exact SelT.nil | apply SelT.yes | apply SelT.no)); done))), ?_⟩;
         (first | (apply EvW.move; exact rfl)))
    (apply Par.quiet _ [true, true, false, false, true, false]; exact rfl; decide +kernel; exact rfl; intro R; refine ⟨_, (by (focus ((repeat (first | exact SelT.nil | apply SelT.yes | apply SelT.no)); done))), ?_⟩;
         (first | (apply EvW.move; exact rfl)))
    (apply Par.quiet _ [true, true, false, false, true, false]; exact rfl; decide +kernel; exact rfl; intro R; refine ⟨_, (by (focus ((repeat (first | exact SelT.nil | apply SelT.yes | apply SelT.no)); done))), ?_⟩;
         (first | (apply EvW.nilPtr; exact rfl)))
    (apply Par.quiet _ [true, true, false, false, true, false]; exact rfl; decide +kernel; exact rfl; intro R; refine ⟨_, (by (focus ((repeat (first | exact SelT.nil | apply SelT.yes | apply SelT.no)); done))), ?_⟩;
         (first | (apply EvW.fieldAddr0; exact rfl; exact FldC.eq)))
    (apply Par.quiet _ [true, true, false, false, true, false]; exact rfl; decide +kernel; exact rfl; intro R; refine ⟨_, (by (focus ((repeat (first | exact SelT.nil | apply SelT.yes | apply SelT.no)); done))), ?_⟩;
         (first | (apply EvW.load; exact rfl; exact ScalC.eq; (focus ((repeat (first | exact Take.head | apply Take.tail)); done)); exact rfl)))
    (apply Par.quiet _ [true, true, false, false, true, false]; exact rfl; decide +kernel; exact rfl; intro R; refine ⟨_, (by (focus ((repeat (first | exact SelT.nil | apply SelT.yes | apply SelT.no)); done))), ?_⟩;
         (first | (apply EvW.fieldAddr0; exact rfl; exact FldC.eq)))
    (apply Par.quiet _ [true, true, false, false, true, false]; exact rfl; decide +kernel; exact rfl; intro R; refine ⟨_, (by (focus ((repeat (first | exact SelT.nil | apply SelT.yes | apply SelT.no)); done))), ?_⟩;
         (first | (apply EvW.load; exact rfl; exact ScalC.eq; (focus ((repeat (first | exact Take.head | apply Take.tail)); done)); exact rfl)))
    (apply Par.new _ [false, false, false, false, false, false] [false, false, true, false, false, false] [true, true, false, false, true, false]; exact rfl; exact rfl; decide +kernel; intro R; refine ⟨_, _, _, (by (focus ((repeat (first | exact SelT.nil | apply SelT.yes | apply SelT.no)); done))), (by (focus ((repeat (first | exact SelT.nil | apply SelT.yes | apply SelT.no)); done))), (fun x => (by (focus ((repeat (first | exact SelT.nil | apply SelT.yes | apply SelT.no)); done)))), ?_⟩; (apply NewW.buildSlice; exact UndC.eq; exact SzC.eq; exact ZvC.eq; exact rfl; exact rfl; exact rfl; (focus ((repeat (first | exact Flat.nil | (apply Flat.one; (first | exact rfl | assumption)) | (apply Flat.cons; exact rfl; exact rfl))); done)); exact rfl; exact rfl; exact fun _ => rfl))
    apply Par.new _ [false, true, true, false, false, false] [false, false, false, true, false, false] [true, false, false, false, true, false]
    · exact rfl
    · exact rfl
    · decide +kernel
    · intro R
      refine ⟨_, _, _, (by (focus ((repeat (first | exact SelT.nil | apply SelT.yes | apply SelT.no)); done))), (by (focus ((repeat (first | exact SelT.nil | apply SelT.yes | apply SelT.no)); done))), (fun x => (by (focus ((repeat (first | exact SelT.nil | apply SelT.yes | apply SelT.no)); done)))), ?_⟩
      (apply NewW.append; exact rfl; exact rfl; exact UndC.eq; exact SzC.eq; exact ByC.eq; exact ZvC.eq; exact rfl; (first | exact notInt_sl UndC.eq | exact notInt_st UndC.eq); exact rfl; (focus ((repeat (first | exact Take.head | apply Take.tail)); done)))
      · exact adds_blk (by (focus ((repeat (first | exact Take.head | apply Take.tail)); done))) rfl rfl
      · (omega)
      · exact fun _ _ h => TakeT.st (by (focus ((repeat (first | exact TakeT.tail | apply TakeT.cons | exact Take.head | apply Take.tail | apply TakeT.drop)); done))) h
    (apply Par.quiet _ [true, false, false, true, true, false]; exact rfl; decide +kernel; exact rfl; intro R; refine ⟨_, (by (focus ((repeat (first | exact SelT.nil | apply SelT.yes | apply SelT.no)); done))), ?_⟩;
         (first | (apply EvW.nilPtr; exact rfl)))
    (apply Par.quiet _ [true, false, false, true, true, false]; exact rfl; decide +kernel; exact rfl; intro R; refine ⟨_, (by (focus ((repeat (first | exact SelT.nil | apply SelT.yes | apply SelT.no)); done))), ?_⟩;
         (first | (apply EvW.fieldAddr0; exact rfl; exact FldC.eq)))
    apply Par.eff _ [false, false, false, false, true, false] [false, false, false, false, false, true] [true, false, false, true, false, false]
    · exact rfl
    · exact rfl
    · decide +kernel
    · intro R
      refine ⟨_, _, _, (by (focus ((repeat (first | exact SelT.nil | apply SelT.yes | apply SelT.no)); done))), (by (focus ((repeat (first | exact SelT.nil | apply SelT.yes | apply SelT.no)); done))), (by (focus ((repeat (first | exact SelT.nil | apply SelT.yes | apply SelT.no)); done))), ?_⟩
      (apply EffW.storeSl; exact rfl; exact rfl; (focus ((repeat (first | exact Take.head | apply Take.tail)); done)); exact SzC.eq; (focus ((repeat (first | apply UpdC.head | apply UpdC.tail | exact SetMany.nil | apply SetMany.cons | apply SetMany.succ)); done)))
    exact Par.nil
  · repeat (first | exact AllN.nil | (apply AllN.cons; (intro c x; (repeat (first | exact IndA.nil | (apply IndA.skip; decide +kernel) | apply IndA.same))))) 
  · repeat (first | exact AllN.nil | (apply AllN.cons; (intro c x; (repeat (first | exact IndT.nil | (apply IndT.skip; decide +kernel) | apply IndT.same))))) 
  · exact fun _ => rfl
  intro c
  refine ⟨_, (by (focus ((repeat (first | exact SelT.nil | apply SelT.yes | apply SelT.no)); done))), ?_⟩
  apply WE.writ
  · (focus ((repeat (first | exact Writ.nil | apply Writ.some | apply Writ.none)); done))
  generalize (c 7).1 = b7
  generalize (c 8).2 = v2
  rw [show ns.map i64 ++ [i64 x.n] = (ns ++ [x.n]).map i64 from by simp, show ns.length + 1 = (ns ++ [x.n]).length from by simp]
  repeat first
    | (apply WL.q; exact rfl; exact rfl; exact rfl; (first | (apply EvW.assign; exact rfl) | (apply EvW.fieldAddr0; exact rfl; exact FldC.eq) | (apply EvW.load; exact rfl; exact ScalC.eq; (focus ((repeat (first | exact Take.head | apply Take.tail)); done)); exact rfl)))
    | refine WC.seq ?_ | refine WC.region ?_ | refine WL.nil ?_ | refine WE.next ?_ | refine WC.ret ?_
  refine WE.keep (xs := [.blk b #[i64 m.peer, i64 m.age, i64 x.s, v2] 58, .own 3 1 v2 (ns ++ [x.n]).length ((ns ++ [x.n]).map i64)]) (by (focus ((repeat (first | exact TakeL.nil | apply TakeL.cons | exact Take.head | apply Take.tail)); done))) ?_
  refine WE.retN (l := [6, 7]) rfl rfl rfl ?_
  exact ⟨rfl, v2, rfl⟩
theorem ralive_spec (b : Nat) (v : Value) (m : Rcv) (ns : List Int) (now : Int) (w : World) (S : BSet) (hS : (sepL [.blk b #[i64 (m).peer, i64 (m).age, i64 (m).last, v] 58, .own 3 1 (v) (ns).length ((ns).map i64)]).sat S w) (hw : now ≤ 9223372036854775807) :
    Tri Try.prog 23 #[ptr b 0, i64 now] w S fun u A => u = .bool (aliveF m now) ∧ A = [.blk b #[i64 (m).peer, i64 (m).age, i64 (m).last, v] 58, .own 3 1 (v) (ns).length ((ns).map i64)] := by
  refine Tri.enter (l := [ptr b 0, i64 now]) Try.func23 rfl Try.ntmps23 rfl [(0, ptr b 0), (1, i64 now)] (subA rfl) hS ?_
  unfold aliveF
  by_cases h1 : 0 ≤ m.last
  · rw [decide_eq_true h1, Bool.true_and]
    obtain ⟨r, hr⟩ : ∃ r, (decide (m.last ≤ now) && decide (now - m.last ≤ m.age)) = r := ⟨_, rfl⟩
    rw [hr]
    repeat first
      | (apply WL.q; exact rfl; exact rfl; exact rfl; (first | (apply EvW.assign; exact rfl)))
      | refine WC.seq ?_ | refine WC.region ?_ | refine WL.nil ?_ | refine WE.next ?_
    repeat refine WC.seq ?_
    refine WC.keep (xs := [.blk b #[i64 (m).peer, i64 (m).age, i64 (m).last, v] 58, .own 3 1 (v) (ns).length ((ns).map i64)]) (by (focus ((repeat (first | exact TakeL.nil | apply TakeL.cons | exact Take.head | apply Take.tail)); done))) ?_
    apply WC.par _ (fun c : Ch => [.blk b #[i64 (m).peer, i64 (m).age, i64 (m).last, v] 58, .own 3 1 (v) (ns).length ((ns).map i64)]) [none, none] [none, none] [] Try.mixed
    · (focus ((repeat (first | exact Restr.nil | (apply Restr.keep; exact rfl; exact rfl) | (apply Restr.drop; exact rfl))); done))
    · intro c; exact (by (focus ((repeat (first | exact SelT.nil | apply SelT.yes | apply SelT.no)); done)))
    · exact rfl
    · decide +kernel
    · decide +kernel
    · intro c
      (apply Par.quiet _ [true, true]; exact rfl; decide +kernel; exact rfl; intro R; refine ⟨_, (by (focus ((repeat (first | exact SelT.nil | apply SelT.yes | apply SelT.no)); done))), ?_⟩;
           (first | (apply EvW.move; exact rfl)))
      (apply Par.quiet _ [true, true]; exact rfl; decide +kernel; exact rfl; intro R; refine ⟨_, (by (focus ((repeat (first | exact SelT.nil | apply SelT.yes | apply SelT.no)); done))), ?_⟩;
           (first | (apply EvW.nilPtr; exact rfl)))
      (apply Par.quiet _ [true, true]; exact rfl; decide +kernel; exact rfl; intro R; refine ⟨_, (by (focus ((repeat (first | exact SelT.nil | apply SelT.yes | apply SelT.no)); done))), ?_⟩;
           (first | (apply EvW.fieldAddr0; exact rfl; exact FldC.eq)))
      (apply Par.quiet _ [true, true]; exact rfl; decide +kernel; exact rfl; intro R; refine ⟨_, (by (focus ((repeat (first | exact SelT.nil | apply SelT.yes | apply SelT.no)); done))), ?_⟩;
           (first | (apply EvW.load; exact rfl; exact ScalC.eq; (focus ((repeat (first | exact Take.head | apply Take.tail)); done)); exact rfl)))
      (apply Par.quiet _ [true, true]; exact rfl; decide +kernel; exact rfl; intro R; refine ⟨_, (by (focus ((repeat (first | exact SelT.nil | apply SelT.yes | apply SelT.no)); done))), ?_⟩;
           (first | (apply EvW.cmpT; exact rfl; exact rfl; exact rfl; omega)))
      (apply Par.quiet _ [true, true]; exact rfl; decide +kernel; exact rfl; intro R; refine ⟨_, (by (focus ((repeat (first | exact SelT.nil | apply SelT.yes | apply SelT.no)); done))), ?_⟩;
           (first | (apply EvW.move; exact rfl)))
      first
        | (apply Par.skip; exact rfl; decide +kernel; exact rfl)
        | (apply Par.quiet _ [true, true]; exact rfl; decide +kernel; exact rfl; intro R; refine ⟨_, (by (focus ((repeat (first | exact SelT.nil | apply SelT.yes | apply SelT.no)); done))), ?_⟩;
           (first | (apply EvW.move; exact rfl)))
      first
        | (apply Par.skip; exact rfl; decide +kernel; exact rfl)
        | (apply Par.quiet _ [true, true]; exact rfl; decide +kernel; exact rfl; intro R; refine ⟨_, (by (focus ((repeat (first | exact SelT.nil | apply SelT.yes | apply SelT.no)); done))), ?_⟩;
           (first | (apply EvW.move; exact rfl)))
      first
        | (apply Par.skip; exact rfl; decide +kernel; exact rfl)
        | (apply Par.quiet _ [true, true]; exact rfl; decide +kernel; exact rfl; intro R; refine ⟨_, (by (focus ((repeat (first | exact SelT.nil | apply SelT.yes | apply SelT.no)); done))), ?_⟩;
           (first | (apply EvW.nilPtr; exact rfl)))
      first
        | (apply Par.skip; exact rfl; decide +kernel; exact rfl)
        | (apply Par.quiet _ [true, true]; exact rfl; decide +kernel; exact rfl; intro R; refine ⟨_, (by (focus ((repeat (first | exact SelT.nil | apply SelT.yes | apply SelT.no)); done))), ?_⟩;
           (first | (apply EvW.fieldAddr0; exact rfl; exact FldC.eq)))
      first
        | (apply Par.skip; exact rfl; decide +kernel; exact rfl)
        | (apply Par.quiet _ [true, true]; exact rfl; decide +kernel; exact rfl; intro R; refine ⟨_, (by (focus ((repeat (first | exact SelT.nil | apply SelT.yes | apply SelT.no)); done))), ?_⟩;
           (first | (apply EvW.load; exact rfl; exact ScalC.eq; (focus ((repeat (first | exact Take.head | apply Take.tail)); done)); exact rfl)))
      first
        | (apply Par.skip; exact rfl; decide +kernel; exact rfl)
        | (apply Par.quiet _ [true, true]; exact rfl; decide +kernel; exact rfl; intro R; refine ⟨_, (by (focus ((repeat (first | exact SelT.nil | apply SelT.yes | apply SelT.no)); done))), ?_⟩;
           (first | (apply EvW.move; exact rfl)))
      first
        | (apply Par.skip; exact rfl; decide +kernel; exact rfl)
        | (apply Par.quiet _ [true, true]; exact rfl; decide +kernel; exact rfl; intro R; refine ⟨_, (by (focus ((repeat (first | exact SelT.nil | apply SelT.yes | apply SelT.no)); done))), ?_⟩;
           (first | (apply EvW.nilPtr; exact rfl)))
      first
        | (apply Par.skip; exact rfl; decide +kernel; exact rfl)
        | (apply Par.quiet _ [true, true]; exact rfl; decide +kernel; exact rfl; intro R; refine ⟨_, (by (focus ((repeat (first | exact SelT.nil | apply SelT.yes | apply SelT.no)); done))), ?_⟩;
           (first | (apply EvW.fieldAddr0; exact rfl; exact FldC.eq)))
      first
        | (apply Par.skip; exact rfl; decide +kernel; exact rfl)
        | (apply Par.quiet _ [true, true]; exact rfl; decide +kernel; exact rfl; intro R; refine ⟨_, (by (focus ((repeat (first | exact SelT.nil | apply SelT.yes | apply SelT.no)); done))), ?_⟩;
           (first | (apply EvW.load; exact rfl; exact ScalC.eq; (focus ((repeat (first | exact Take.head | apply Take.tail)); done)); exact rfl)))
      apply Par.quiet _ [true, true]
      · exact rfl
      · decide +kernel
      · exact rfl
      · intro R
        refine ⟨_, (by (focus ((repeat (first | exact SelT.nil | apply SelT.yes | apply SelT.no)); done))), ?_⟩
        apply EvW.callK ([])
        · exact rfl
        · exact fun w => Try.call45 _ w
        · (focus ((repeat (first | exact TakeL.nil | apply TakeL.cons | exact Take.head | apply Take.tail)); done))
        · exact fun w1 S1 hS1 hs1 ho1 => fresh_spec now m.last m.age r w1 S1 hS1 h1 hw hr
        · exact fun _ _ h => h
      (apply Par.quiet _ [true, true]; exact rfl; decide +kernel; exact rfl; intro R; refine ⟨_, (by (focus ((repeat (first | exact SelT.nil | apply SelT.yes | apply SelT.no)); done))), ?_⟩;
           (first | (apply EvW.pickT; exact rfl; exact rfl)))
      (apply Par.quiet _ [true, true]; exact rfl; decide +kernel; exact rfl; intro R; refine ⟨_, (by (focus ((repeat (first | exact SelT.nil | apply SelT.yes | apply SelT.no)); done))), ?_⟩;
           (first | (apply EvW.assign; exact rfl)))
      exact Par.nil
    · repeat (first | exact AllN.nil | (apply AllN.cons; (intro c x; (repeat (first | exact IndA.nil | (apply IndA.skip; decide +kernel) | apply IndA.same))))) 
    · repeat (first | exact AllN.nil | (apply AllN.cons; (intro c x; (repeat (first | exact IndT.nil | (apply IndT.skip; decide +kernel) | apply IndT.same))))) 
    · exact fun _ => rfl
    intro c
    refine ⟨_, (by (focus ((repeat (first | exact SelT.nil | apply SelT.yes | apply SelT.no)); done))), ?_⟩
    apply WE.writ
    · (focus ((repeat (first | exact Writ.nil | apply Writ.some | apply Writ.none)); done))
    repeat first
      | refine WE.next ?_ | refine WC.ret ?_
    refine WE.ret1 rfl rfl ?_
    exact ⟨rfl, rfl⟩
  · rw [decide_eq_false h1, Bool.false_and]
    repeat first
      | (apply WL.q; exact rfl; exact rfl; exact rfl; (first | (apply EvW.assign; exact rfl)))
      | refine WC.seq ?_ | refine WC.region ?_ | refine WL.nil ?_ | refine WE.next ?_
    repeat refine WC.seq ?_
    refine WC.keep (xs := [.blk b #[i64 (m).peer, i64 (m).age, i64 (m).last, v] 58, .own 3 1 (v) (ns).length ((ns).map i64)]) (by (focus ((repeat (first | exact TakeL.nil | apply TakeL.cons | exact Take.head | apply Take.tail)); done))) ?_
    apply WC.par _ (fun c : Ch => [.blk b #[i64 (m).peer, i64 (m).age, i64 (m).last, v] 58, .own 3 1 (v) (ns).length ((ns).map i64)]) [none, none] [none, none] [] Try.mixed
    · (focus ((repeat (first | exact Restr.nil | (apply Restr.keep; exact rfl; exact rfl) | (apply Restr.drop; exact rfl))); done))
    · intro c; exact (by (focus ((repeat (first | exact SelT.nil | apply SelT.yes | apply SelT.no)); done)))
    · exact rfl
    · decide +kernel
    · decide +kernel
    · intro c
      (apply Par.quiet _ [true, true]; exact rfl; decide +kernel; exact rfl; intro R; refine ⟨_, (by (focus ((repeat (first | exact SelT.nil | apply SelT.yes | apply SelT.no)); done))), ?_⟩;
           (first | (apply EvW.move; exact rfl)))
      (apply Par.quiet _ [true, true]; exact rfl; decide +kernel; exact rfl; intro R; refine ⟨_, (by (focus ((repeat (first | exact SelT.nil | apply SelT.yes | apply SelT.no)); done))), ?_⟩;
           (first | (apply EvW.nilPtr; exact rfl)))
      (apply Par.quiet _ [true, true]; exact rfl; decide +kernel; exact rfl; intro R; refine ⟨_, (by (focus ((repeat (first | exact SelT.nil | apply SelT.yes | apply SelT.no)); done))), ?_⟩;
           (first | (apply EvW.fieldAddr0; exact rfl; exact FldC.eq)))
      (apply Par.quiet _ [true, true]; exact rfl; decide +kernel; exact rfl; intro R; refine ⟨_, (by (focus ((repeat (first | exact SelT.nil | apply SelT.yes | apply SelT.no)); done))), ?_⟩;
           (first | (apply EvW.load; exact rfl; exact ScalC.eq; (focus ((repeat (first | exact Take.head | apply Take.tail)); done)); exact rfl)))
      (apply Par.quiet _ [true, true]; exact rfl; decide +kernel; exact rfl; intro R; refine ⟨_, (by (focus ((repeat (first | exact SelT.nil | apply SelT.yes | apply SelT.no)); done))), ?_⟩;
           (first | (apply EvW.cmpF; exact rfl; exact rfl; exact rfl; omega)))
      (apply Par.quiet _ [true, true]; exact rfl; decide +kernel; exact rfl; intro R; refine ⟨_, (by (focus ((repeat (first | exact SelT.nil | apply SelT.yes | apply SelT.no)); done))), ?_⟩;
           (first | (apply EvW.move; exact rfl)))
      first
        | (apply Par.skip; exact rfl; decide +kernel; exact rfl)
        | (apply Par.quiet _ [true, true]; exact rfl; decide +kernel; exact rfl; intro R; refine ⟨_, (by (focus ((repeat (first | exact SelT.nil | apply SelT.yes | apply SelT.no)); done))), ?_⟩;
           fail)
      first
        | (apply Par.skip; exact rfl; decide +kernel; exact rfl)
        | (apply Par.quiet _ [true, true]; exact rfl; decide +kernel; exact rfl; intro R; refine ⟨_, (by (focus ((repeat (first | exact SelT.nil | apply SelT.yes | apply SelT.no)); done))), ?_⟩;
           fail)
      first
        | (apply Par.skip; exact rfl; decide +kernel; exact rfl)
        | (apply Par.quiet _ [true, true]; exact rfl; decide +kernel; exact rfl; intro R; refine ⟨_, (by (focus ((repeat (first | exact SelT.nil | apply SelT.yes | apply SelT.no)); done))), ?_⟩;
           fail)
      first
        | (apply Par.skip; exact rfl; decide +kernel; exact rfl)
        | (apply Par.quiet _ [true, true]; exact rfl; decide +kernel; exact rfl; intro R; refine ⟨_, (by (focus ((repeat (first | exact SelT.nil | apply SelT.yes | apply SelT.no)); done))), ?_⟩;
           fail)
      first
        | (apply Par.skip; exact rfl; decide +kernel; exact rfl)
        | (apply Par.quiet _ [true, true]; exact rfl; decide +kernel; exact rfl; intro R; refine ⟨_, (by (focus ((repeat (first | exact SelT.nil | apply SelT.yes | apply SelT.no)); done))), ?_⟩;
           fail)
      first
        | (apply Par.skip; exact rfl; decide +kernel; exact rfl)
        | (apply Par.quiet _ [true, true]; exact rfl; decide +kernel; exact rfl; intro R; refine ⟨_, (by (focus ((repeat (first | exact SelT.nil | apply SelT.yes | apply SelT.no)); done))), ?_⟩;
           fail)
      first
        | (apply Par.skip; exact rfl; decide +kernel; exact rfl)
        | (apply Par.quiet _ [true, true]; exact rfl; decide +kernel; exact rfl; intro R; refine ⟨_, (by (focus ((repeat (first | exact SelT.nil | apply SelT.yes | apply SelT.no)); done))), ?_⟩;
           fail)
      first
        | (apply Par.skip; exact rfl; decide +kernel; exact rfl)
        | (apply Par.quiet _ [true, true]; exact rfl; decide +kernel; exact rfl; intro R; refine ⟨_, (by (focus ((repeat (first | exact SelT.nil | apply SelT.yes | apply SelT.no)); done))), ?_⟩;
           fail)
      first
        | (apply Par.skip; exact rfl; decide +kernel; exact rfl)
        | (apply Par.quiet _ [true, true]; exact rfl; decide +kernel; exact rfl; intro R; refine ⟨_, (by (focus ((repeat (first | exact SelT.nil | apply SelT.yes | apply SelT.no)); done))), ?_⟩;
           fail)
      (apply Par.skip; exact rfl; decide +kernel; exact rfl)
      (apply Par.quiet _ [true, true]; exact rfl; decide +kernel; exact rfl; intro R; refine ⟨_, (by (focus ((repeat (first | exact SelT.nil | apply SelT.yes | apply SelT.no)); done))), ?_⟩;
           (first | (apply EvW.pickF; exact rfl; exact rfl)))
      (apply Par.quiet _ [true, true]; exact rfl; decide +kernel; exact rfl; intro R; refine ⟨_, (by (focus ((repeat (first | exact SelT.nil | apply SelT.yes | apply SelT.no)); done))), ?_⟩;
           (first | (apply EvW.assign; exact rfl)))
      exact Par.nil
    · repeat (first | exact AllN.nil | (apply AllN.cons; (intro c x; (repeat (first | exact IndA.nil | (apply IndA.skip; decide +kernel) | apply IndA.same))))) 
    · repeat (first | exact AllN.nil | (apply AllN.cons; (intro c x; (repeat (first | exact IndT.nil | (apply IndT.skip; decide +kernel) | apply IndT.same))))) 
    · exact fun _ => rfl
    intro c
    refine ⟨_, (by (focus ((repeat (first | exact SelT.nil | apply SelT.yes | apply SelT.no)); done))), ?_⟩
    apply WE.writ
    · (focus ((repeat (first | exact Writ.nil | apply Writ.some | apply Writ.none)); done))
    repeat first
      | refine WE.next ?_ | refine WC.ret ?_
    refine WE.ret1 rfl rfl ?_
    exact ⟨rfl, rfl⟩
theorem rlost_spec (b : Nat) (v : Value) (m : Rcv) (ns : List Int) (w : World) (S : BSet) (hS : (sepL [.blk b #[i64 (m).peer, i64 (m).age, i64 (m).last, v] 58, .own 3 1 (v) (ns).length ((ns).map i64)]).sat S w) (hn : (ns.length : Int) ≤ 17592186044416) :
    Tri Try.prog 25 #[ptr b 0] w S fun u A => u = i64 (lost ns) ∧ A = [.blk b #[i64 (m).peer, i64 (m).age, i64 (m).last, v] 58, .own 3 1 (v) (ns).length ((ns).map i64)] := by
  refine Tri.enter (l := [ptr b 0]) Try.func25 rfl Try.ntmps25 rfl [(0, ptr b 0)] (subA rfl) hS ?_
  repeat first
    | (apply WL.q; exact rfl; exact rfl; exact rfl; (first | (apply EvW.move; exact rfl) | (apply EvW.assign; exact rfl) | (apply EvW.nilPtr; exact rfl) | (apply EvW.fieldAddr0; exact rfl; exact FldC.eq) | (apply EvW.load; exact rfl; exact ScalC.eq; (focus ((repeat (first | exact Take.head | apply Take.tail)); done)); exact rfl)))
    | refine WC.seq ?_ | refine WC.region ?_ | refine WL.nil ?_ | refine WE.next ?_
  try refine WL.wanted rfl rfl rfl ?_
  apply WL.callA ([])
  · exact rfl
  · exact rfl
  · exact fun w => Try.call46 _ w
  · (focus ((repeat (first | exact TakeL.nil | apply TakeL.cons | exact Take.head | apply Take.tail)); done))
  · exact fun w1 S1 hS1 hs1 ho1 => sq_refLost_spec v ns w1 S1 hS1 (ho1 (.own 3 1 v ns.length (ns.map i64)) _ (by (focus ((repeat (first | exact Take.head | apply Take.tail)); done)))).own hn
  rintro _ _ ⟨rfl, rfl⟩
  first | refine WL.app4 ?_ | refine WL.app3 ?_ | refine WL.app2 ?_ | refine WL.app1 ?_ | refine WL.app0 ?_ | skip
  repeat first
    | (apply WL.q; exact rfl; exact rfl; exact rfl; (first | (apply EvW.assign; exact rfl)))
    | refine WL.nil ?_ | refine WE.next ?_ | refine WC.ret ?_
  refine WE.ret1 rfl rfl ?_
  exact ⟨rfl, rfl⟩
end Go.Proofs.Ytgcpoehchohleaa
