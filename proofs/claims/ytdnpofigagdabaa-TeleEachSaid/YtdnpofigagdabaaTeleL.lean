/- Statuses and orders of a payload, as the document has them; the example. -/
import Derived.Test.YtdnpofigagdabaaTeleK
namespace Go.Proofs.Ytdnpofigagdabaa
open Go.RowKit Go.BK

theorem rrstatus_spec (h : Q4) (l : List UInt8) (g : Bool) (w : World) (S : BSet) (hS : (sepL []).sat S w) (hh : h.Seen w S) (hl : l.length ≤ 140737488355328) (hg : g = true ↔ sGood h l) :
    Tri Try.prog 19 #[.agg #[(h).a, (h).b, (h).y, (h).d], str l] w S fun u A => if g = true then ∃ a b y d : Value, u = .tuple #[.agg #[a, b, y, d], i64 0] ∧ A = [.own 3 1 (a) (tpart l 1 h.la.length).length ((tpart l 1 h.la.length).map i64), .own 3 1 (b) (tpart l (1 + h.la.length) h.lb.length).length ((tpart l (1 + h.la.length) h.lb.length).map i64), .own 3 1 (y) (tpart l (1 + h.la.length + h.lb.length) h.ly.length).length ((tpart l (1 + h.la.length + h.lb.length) h.ly.length).map i64), .own 3 1 (d) (tpart l (1 + h.la.length + h.lb.length + h.ly.length) h.ld.length).length ((tpart l (1 + h.la.length + h.lb.length + h.ly.length) h.ld.length).map i64)] else u = .tuple #[.agg #[.slice none 0 0, .slice none 0 0, .slice none 0 0, .slice none 0 0], i64 3] ∧ A = [] := by
  refine Tri.enter (l := [.agg #[(h).a, (h).b, (h).y, (h).d], str l]) Try.func19 rfl Try.ntmps19 rfl [(0, .agg #[(h).a, (h).b, (h).y, (h).d]), (1, str l)] (subA rfl) hS ?_
  have g1 := hh.a
  have g2 := hh.b
  have g3 := hh.y
  have g4 := hh.d
  have n1 := hh.na
  have n2 := hh.nb
  have n3 := hh.ny
  have n4 := hh.nd
  repeat first
    | refine WC.seq ?_ | refine WC.region ?_
  try refine WL.wanted rfl rfl rfl ?_
  (apply WL.box; exact rfl; exact rfl; exact rfl; intro q1)
  skip
  try refine WL.wanted rfl rfl rfl ?_
  (apply WL.alloc; exact rfl; exact ZvC.eq; exact rfl; intro r)
  repeat first
    | (apply WL.q; exact rfl; exact rfl; exact rfl; (first | (apply EvW.assign; exact rfl)))
    | refine WC.seq ?_ | refine WL.nil ?_ | refine WE.next ?_
  repeat refine WC.seq ?_
  apply WC.drawQ Try.mixed
  · (focus ((repeat (first | exact Restr.nil | (apply Restr.keep; exact rfl; exact rfl) | (apply Restr.drop; exact rfl))); done))
  · exact rfl
  · decide +kernel
  · decide +kernel
  · repeat first
      | exact Draws.nil
      | (apply Draws.skip; exact rfl; exact rfl)
      | (apply Draws.q0; exact rfl
         (first | (apply EvW.assign; exact rfl) | (apply EvW.fieldAddr0; exact rfl; exact FldC.eq) | (apply EvW.load; exact rfl; exact ScalC.eq; (focus ((repeat (first | exact Take.head | apply Take.tail)); done)); exact rfl) | (apply EvW.lenRow; exact rfl; exact UndC.eq; assumption)))
  apply WE.writ
  · (focus ((repeat (first | exact Writ.nil | apply Writ.some | apply Writ.none)); done))
  repeat first
    | refine WC.seq ?_ | refine WE.next ?_
  repeat refine WC.seq ?_
  refine WC.keep (xs := [.blk q1 #[h.a, h.b, h.y, h.d] 33, .blk r #[.slice none 0 0, .slice none 0 0, .slice none 0 0, .slice none 0 0] 44]) (by (focus ((repeat (first | exact TakeL.nil | apply TakeL.cons | exact Take.head | apply Take.tail)); done))) ?_
  apply WC.par _ (fun c : Ch => [.blk q1 #[h.a, h.b, h.y, h.d] 33, .own 3 1 ((c 2).2) (tpart l 1 h.la.length).length ((tpart l 1 h.la.length).map i64), .own 3 1 ((c 7).2) (tpart l (1 + h.la.length) h.lb.length).length ((tpart l (1 + h.la.length) h.lb.length).map i64), .own 3 1 ((c 14).2) (tpart l (1 + h.la.length + h.lb.length) h.ly.length).length ((tpart l (1 + h.la.length + h.lb.length) h.ly.length).map i64), .own 3 1 ((c 25).2) (tpart l (1 + h.la.length + h.lb.length + h.ly.length) h.ld.length).length ((tpart l (1 + h.la.length + h.lb.length + h.ly.length) h.ld.length).map i64), .blk (c 27).1 #[.slice none 0 0, .slice none 0 0, .slice none 0 0, .slice none 0 0] 44, .blk (c 27).1 #[(c 2).2, (c 7).2, (c 14).2, (c 25).2] 44, .blk r #[.slice none 0 0, .slice none 0 0, .slice none 0 0, .slice none 0 0] 44]) [none, some 2, some 7, some 14, some 25, some 27, some 28, none] [none, none, none, none, none, some 28, none, none] [(2, fun x => x.2), (7, fun x => x.2), (14, fun x => x.2), (25, fun x => x.2), (27, fun x => ptr x.1 0)] Try.mixed
  · (focus ((repeat (first | exact Restr.nil | (apply Restr.keep; exact rfl; exact rfl) | (apply Restr.drop; exact rfl))); done))
  · intro c; exact (by (focus ((repeat (first | exact SelT.nil | apply SelT.yes | apply SelT.no)); done)))
  · exact rfl
  · decide +kernel
  · decide +kernel
  · intro c
    (apply Par.quiet _ [true, false, false, false, false, false, false, true]; exact rfl; decide +kernel; exact rfl; intro R; refine ⟨_, (by (focus ((repeat (first | exact SelT.nil | apply SelT.yes | apply SelT.no)); done))), ?_⟩;
         (first | (apply EvW.move; exact rfl)))
    (apply Par.quiet _ [true, false, false, false, false, false, false, true]; exact rfl; decide +kernel; exact rfl; intro R; refine ⟨_, (by (focus ((repeat (first | exact SelT.nil | apply SelT.yes | apply SelT.no)); done))), ?_⟩;
         (first | (apply EvW.move; exact rfl)))
    apply Par.new _ [false, false, false, false, false, false, false, false] [false, true, false, false, false, false, false, false] [true, false, false, false, false, false, false, true]
    · exact rfl
    · exact rfl
    · decide +kernel
    · intro R
      refine ⟨_, _, _, (by (focus ((repeat (first | exact SelT.nil | apply SelT.yes | apply SelT.no)); done))), (by (focus ((repeat (first | exact SelT.nil | apply SelT.yes | apply SelT.no)); done))), (fun x => (by (focus ((repeat (first | exact SelT.nil | apply SelT.yes | apply SelT.no)); done)))), ?_⟩
      apply NewW.call (fun x => [.own 3 1 (x.2) (tpart l 1 h.la.length).length ((tpart l 1 h.la.length).map i64)])
      · exact rfl
      · exact fun w1 S1 hS1 hs1 ho1 => rtake_spec l 1 h.la.length w1 S1 hS1 hl (by decide) n1
      · exact fun w => Try.call42 _ w
      · (focus ((repeat (first | exact TakeL.nil | apply TakeL.cons | exact Take.head | apply Take.tail)); done))
      · rintro _ _ rfl; exact ⟨(0, _), rfl, rfl⟩
      · exact fun x _ h => TakeT.st (by (focus ((repeat (first | exact TakeT.tail | apply TakeT.cons | exact Take.head | apply Take.tail | apply TakeT.drop)); done))) h
    (apply Par.quiet _ [true, false, false, false, false, false, false, true]; exact rfl; decide +kernel; exact rfl; intro R; refine ⟨_, (by (focus ((repeat (first | exact SelT.nil | apply SelT.yes | apply SelT.no)); done))), ?_⟩;
         (first | (apply EvW.move; exact rfl)))
    (apply Par.quiet _ [true, false, false, false, false, false, false, true]; exact rfl; decide +kernel; exact rfl; intro R; refine ⟨_, (by (focus ((repeat (first | exact SelT.nil | apply SelT.yes | apply SelT.no)); done))), ?_⟩;
         (first | (apply EvW.move; exact rfl)))
    (apply Par.quiet _ [true, false, false, false, false, false, false, true]; exact rfl; decide +kernel; exact rfl; intro R; refine ⟨_, (by (focus ((repeat (first | exact SelT.nil | apply SelT.yes | apply SelT.no)); done))), ?_⟩;
         (first | (apply EvW.arN; exact rfl; exact rfl; exact rfl; refine i64_in ?_ ?_ <;> omega)))
    (apply Par.quiet _ [true, false, false, false, false, false, false, true]; exact rfl; decide +kernel; exact rfl; intro R; refine ⟨_, (by (focus ((repeat (first | exact SelT.nil | apply SelT.yes | apply SelT.no)); done))), ?_⟩;
         (first | (apply EvW.move; exact rfl)))
    apply Par.new _ [false, false, false, false, false, false, false, false] [false, false, true, false, false, false, false, false] [true, true, false, false, false, false, false, true]
    · exact rfl
    · exact rfl
    · decide +kernel
    · intro R
      refine ⟨_, _, _, (by (focus ((repeat (first | exact SelT.nil | apply SelT.yes | apply SelT.no)); done))), (by (focus ((repeat (first | exact SelT.nil | apply SelT.yes | apply SelT.no)); done))), (fun x => (by (focus ((repeat (first | exact SelT.nil | apply SelT.yes | apply SelT.no)); done)))), ?_⟩
      apply NewW.call (fun x => [.own 3 1 (x.2) (tpart l (1 + h.la.length) h.lb.length).length ((tpart l (1 + h.la.length) h.lb.length).map i64)])
      · exact rfl
      · exact fun w1 S1 hS1 hs1 ho1 => rtake_spec l (1 + h.la.length) h.lb.length w1 S1 hS1 hl (by omega) n2
      · exact fun w => Try.call42 _ w
      · (focus ((repeat (first | exact TakeL.nil | apply TakeL.cons | exact Take.head | apply Take.tail)); done))
      · rintro _ _ rfl; exact ⟨(0, _), rfl, rfl⟩
      · exact fun x _ h => TakeT.st (by (focus ((repeat (first | exact TakeT.tail | apply TakeT.cons | exact Take.head | apply Take.tail | apply TakeT.drop)); done))) h
    (apply Par.quiet _ [true, false, false, false, false, false, false, true]; exact rfl; decide +kernel; exact rfl; intro R; refine ⟨_, (by (focus ((repeat (first | exact SelT.nil | apply SelT.yes | apply SelT.no)); done))), ?_⟩;
         (first | (apply EvW.move; exact rfl)))
    (apply Par.quiet _ [true, false, false, false, false, false, false, true]; exact rfl; decide +kernel; exact rfl; intro R; refine ⟨_, (by (focus ((repeat (first | exact SelT.nil | apply SelT.yes | apply SelT.no)); done))), ?_⟩;
         (first | (apply EvW.move; exact rfl)))
    (apply Par.quiet _ [true, false, false, false, false, false, false, true]; exact rfl; decide +kernel; exact rfl; intro R; refine ⟨_, (by (focus ((repeat (first | exact SelT.nil | apply SelT.yes | apply SelT.no)); done))), ?_⟩;
         (first | (apply EvW.arN; exact rfl; exact rfl; exact rfl; refine i64_in ?_ ?_ <;> omega)))
    (apply Par.quiet _ [true, false, false, false, false, false, false, true]; exact rfl; decide +kernel; exact rfl; intro R; refine ⟨_, (by (focus ((repeat (first | exact SelT.nil | apply SelT.yes | apply SelT.no)); done))), ?_⟩;
         (first | (apply EvW.move; exact rfl)))
    (apply Par.quiet _ [true, false, false, false, false, false, false, true]; exact rfl; decide +kernel; exact rfl; intro R; refine ⟨_, (by (focus ((repeat (first | exact SelT.nil | apply SelT.yes | apply SelT.no)); done))), ?_⟩;
         (first | (apply EvW.arN; exact rfl; exact rfl; exact rfl; refine i64_in ?_ ?_ <;> omega)))
    (apply Par.quiet _ [true, false, false, false, false, false, false, true]; exact rfl; decide +kernel; exact rfl; intro R; refine ⟨_, (by (focus ((repeat (first | exact SelT.nil | apply SelT.yes | apply SelT.no)); done))), ?_⟩;
         (first | (apply EvW.move; exact rfl)))
    apply Par.new _ [false, false, false, false, false, false, false, false] [false, false, false, true, false, false, false, false] [true, true, true, false, false, false, false, true]
    · exact rfl
    · exact rfl
    · decide +kernel
    · intro R
      refine ⟨_, _, _, (by (focus ((repeat (first | exact SelT.nil | apply SelT.yes | apply SelT.no)); done))), (by (focus ((repeat (first | exact SelT.nil | apply SelT.yes | apply SelT.no)); done))), (fun x => (by (focus ((repeat (first | exact SelT.nil | apply SelT.yes | apply SelT.no)); done)))), ?_⟩
      apply NewW.call (fun x => [.own 3 1 (x.2) (tpart l (1 + h.la.length + h.lb.length) h.ly.length).length ((tpart l (1 + h.la.length + h.lb.length) h.ly.length).map i64)])
      · exact rfl
      · exact fun w1 S1 hS1 hs1 ho1 => rtake_spec l (1 + h.la.length + h.lb.length) h.ly.length w1 S1 hS1 hl (by omega) n3
      · exact fun w => Try.call42 _ w
      · (focus ((repeat (first | exact TakeL.nil | apply TakeL.cons | exact Take.head | apply Take.tail)); done))
      · rintro _ _ rfl; exact ⟨(0, _), rfl, rfl⟩
      · exact fun x _ h => TakeT.st (by (focus ((repeat (first | exact TakeT.tail | apply TakeT.cons | exact Take.head | apply Take.tail | apply TakeT.drop)); done))) h
    (apply Par.quiet _ [true, false, false, false, false, false, false, true]; exact rfl; decide +kernel; exact rfl; intro R; refine ⟨_, (by (focus ((repeat (first | exact SelT.nil | apply SelT.yes | apply SelT.no)); done))), ?_⟩;
         (first | (apply EvW.move; exact rfl)))
    (apply Par.quiet _ [true, false, false, false, false, false, false, true]; exact rfl; decide +kernel; exact rfl; intro R; refine ⟨_, (by (focus ((repeat (first | exact SelT.nil | apply SelT.yes | apply SelT.no)); done))), ?_⟩;
         (first | (apply EvW.move; exact rfl)))
    (apply Par.quiet _ [true, false, false, false, false, false, false, true]; exact rfl; decide +kernel; exact rfl; intro R; refine ⟨_, (by (focus ((repeat (first | exact SelT.nil | apply SelT.yes | apply SelT.no)); done))), ?_⟩;
         (first | (apply EvW.arN; exact rfl; exact rfl; exact rfl; refine i64_in ?_ ?_ <;> omega)))
    (apply Par.quiet _ [true, false, false, false, false, false, false, true]; exact rfl; decide +kernel; exact rfl; intro R; refine ⟨_, (by (focus ((repeat (first | exact SelT.nil | apply SelT.yes | apply SelT.no)); done))), ?_⟩;
         (first | (apply EvW.move; exact rfl)))
    (apply Par.quiet _ [true, false, false, false, false, false, false, true]; exact rfl; decide +kernel; exact rfl; intro R; refine ⟨_, (by (focus ((repeat (first | exact SelT.nil | apply SelT.yes | apply SelT.no)); done))), ?_⟩;
         (first | (apply EvW.arN; exact rfl; exact rfl; exact rfl; refine i64_in ?_ ?_ <;> omega)))
    (apply Par.quiet _ [true, false, false, false, false, false, false, true]; exact rfl; decide +kernel; exact rfl; intro R; refine ⟨_, (by (focus ((repeat (first | exact SelT.nil | apply SelT.yes | apply SelT.no)); done))), ?_⟩;
         (first | (apply EvW.move; exact rfl)))
    (apply Par.quiet _ [true, false, false, false, false, false, false, true]; exact rfl; decide +kernel; exact rfl; intro R; refine ⟨_, (by (focus ((repeat (first | exact SelT.nil | apply SelT.yes | apply SelT.no)); done))), ?_⟩;
         (first | (apply EvW.arN; exact rfl; exact rfl; exact rfl; refine i64_in ?_ ?_ <;> omega)))
    (apply Par.quiet _ [true, false, false, false, false, false, false, true]; exact rfl; decide +kernel; exact rfl; intro R; refine ⟨_, (by (focus ((repeat (first | exact SelT.nil | apply SelT.yes | apply SelT.no)); done))), ?_⟩;
         (first | (apply EvW.fieldAddr0; exact rfl; exact FldC.eq)))
    (apply Par.quiet _ [true, false, false, false, false, false, false, true]; exact rfl; decide +kernel; exact rfl; intro R; refine ⟨_, (by (focus ((repeat (first | exact SelT.nil | apply SelT.yes | apply SelT.no)); done))), ?_⟩;
         (first | (apply EvW.load; exact rfl; exact ScalC.eq; (focus ((repeat (first | exact Take.head | apply Take.tail)); done)); exact rfl)))
    (apply Par.quiet _ [true, false, false, false, false, false, false, true]; exact rfl; decide +kernel; exact rfl; intro R; refine ⟨_, (by (focus ((repeat (first | exact SelT.nil | apply SelT.yes | apply SelT.no)); done))), ?_⟩;
         (first | (apply EvW.lenRow; exact rfl; exact UndC.eq; assumption)))
    apply Par.new _ [false, false, false, false, false, false, false, false] [false, false, false, false, true, false, false, false] [true, true, true, true, false, false, false, true]
    · exact rfl
    · exact rfl
    · decide +kernel
    · intro R
      refine ⟨_, _, _, (by (focus ((repeat (first | exact SelT.nil | apply SelT.yes | apply SelT.no)); done))), (by (focus ((repeat (first | exact SelT.nil | apply SelT.yes | apply SelT.no)); done))), (fun x => (by (focus ((repeat (first | exact SelT.nil | apply SelT.yes | apply SelT.no)); done)))), ?_⟩
      apply NewW.call (fun x => [.own 3 1 (x.2) (tpart l (1 + h.la.length + h.lb.length + h.ly.length) h.ld.length).length ((tpart l (1 + h.la.length + h.lb.length + h.ly.length) h.ld.length).map i64)])
      · exact rfl
      · exact fun w1 S1 hS1 hs1 ho1 => rtake_spec l (1 + h.la.length + h.lb.length + h.ly.length) h.ld.length w1 S1 hS1 hl (by omega) n4
      · exact fun w => Try.call42 _ w
      · (focus ((repeat (first | exact TakeL.nil | apply TakeL.cons | exact Take.head | apply Take.tail)); done))
      · rintro _ _ rfl; exact ⟨(0, _), rfl, rfl⟩
      · exact fun x _ h => TakeT.st (by (focus ((repeat (first | exact TakeT.tail | apply TakeT.cons | exact Take.head | apply Take.tail | apply TakeT.drop)); done))) h
    apply Par.quiet _ [true, true, true, true, true, false, false, true]
    · exact rfl
    · decide +kernel
    · exact rfl
    · intro R
      refine ⟨_, (by (focus ((repeat (first | exact SelT.nil | apply SelT.yes | apply SelT.no)); done))), ?_⟩
      (apply EvW.slOwn (c 2).2; (focus ((repeat (first | exact Take.head | apply Take.tail)); done)); intro hc1 _; apply EvW.slOwn (c 7).2; (focus ((repeat (first | exact Take.head | apply Take.tail)); done)); intro hc2 _; apply EvW.slOwn (c 14).2; (focus ((repeat (first | exact Take.head | apply Take.tail)); done)); intro hc3 _; apply EvW.slOwn (c 25).2; (focus ((repeat (first | exact Take.head | apply Take.tail)); done)); intro hc4 _; (apply EvW.build; exact PlC.eq; exact ZvC.eq; exact rfl; exact rfl; (focus ((repeat (first | exact Fills.nil | (apply Fills.cons; exact rfl; (first | assumption | exact rfl); exact rfl) | exact SetMany.nil | apply SetMany.cons | apply SetMany.succ)); done))))
    (apply Par.new _ [false, false, false, false, false, false, false, false] [false, false, false, false, false, true, false, false] [true, false, false, false, false, false, false, true]; exact rfl; exact rfl; decide +kernel; intro R; refine ⟨_, _, _, (by (focus ((repeat (first | exact SelT.nil | apply SelT.yes | apply SelT.no)); done))), (by (focus ((repeat (first | exact SelT.nil | apply SelT.yes | apply SelT.no)); done))), (fun x => (by (focus ((repeat (first | exact SelT.nil | apply SelT.yes | apply SelT.no)); done)))), ?_⟩; (apply NewW.alloc; exact ZvC.eq; exact rfl; exact fun _ => rfl))
    apply Par.eff _ [false, false, false, false, false, true, false, false] [false, false, false, false, false, false, true, false] [true, true, true, true, true, false, false, true]
    · exact rfl
    · exact rfl
    · decide +kernel
    · intro R
      refine ⟨_, _, _, (by (focus ((repeat (first | exact SelT.nil | apply SelT.yes | apply SelT.no)); done))), (by (focus ((repeat (first | exact SelT.nil | apply SelT.yes | apply SelT.no)); done))), (by (focus ((repeat (first | exact SelT.nil | apply SelT.yes | apply SelT.no)); done))), ?_⟩
      (apply EffW.slOwn (c 2).2; (focus ((repeat (first | exact Take.head | apply Take.tail)); done)); intro _ ho1; apply EffW.slOwn (c 7).2; (focus ((repeat (first | exact Take.head | apply Take.tail)); done)); intro _ ho2; apply EffW.slOwn (c 14).2; (focus ((repeat (first | exact Take.head | apply Take.tail)); done)); intro _ ho3; apply EffW.slOwn (c 25).2; (focus ((repeat (first | exact Take.head | apply Take.tail)); done)); intro _ ho4; (apply EffW.store; exact rfl; exact rfl; exact rfl; exact SzC.eq; (simp [ho1, ho2, ho3, ho4]); (focus ((repeat (first | apply UpdC.head | apply UpdC.tail | exact SetMany.nil | apply SetMany.cons | apply SetMany.succ)); done))))
    exact Par.nil
  · repeat (first | exact AllN.nil | (apply AllN.cons; (intro c x; (repeat (first | exact IndA.nil | (apply IndA.skip; decide +kernel) | apply IndA.same))))) 
  · repeat (first | exact AllN.nil | (apply AllN.cons; (intro c x; (repeat (first | exact IndT.nil | (apply IndT.skip; decide +kernel) | apply IndT.same))))) 
  · exact fun _ => rfl
  intro c
  refine ⟨_, (by (focus ((repeat (first | exact SelT.nil | apply SelT.yes | apply SelT.no)); done))), ?_⟩
  apply WE.writ
  · (focus ((repeat (first | exact Writ.nil | apply Writ.some | apply Writ.none)); done))
  generalize (c 27).1 = b27
  generalize (c 2).2 = a
  generalize (c 7).2 = b
  generalize (c 14).2 = y
  generalize (c 25).2 = d
  rw [sGood_iff h l a b y d] at hg
  have hS4 : ∀ {w' : World} {S' : BSet}, Sees w' S' (.row 1 a (tpart l 1 h.la.length).length ((tpart l 1 h.la.length).map i64)) → Sees w' S' (.row 1 b (tpart l (1 + h.la.length) h.lb.length).length ((tpart l (1 + h.la.length) h.lb.length).map i64)) → Sees w' S' (.row 1 y (tpart l (1 + h.la.length + h.lb.length) h.ly.length).length ((tpart l (1 + h.la.length + h.lb.length) h.ly.length).map i64)) → Sees w' S' (.row 1 d (tpart l (1 + h.la.length + h.lb.length + h.ly.length) h.ld.length).length ((tpart l (1 + h.la.length + h.lb.length + h.ly.length) h.ld.length).map i64)) → (sOf h l a b y d).Seen w' S' := fun s1 s2 s3 s4 => ⟨s1, s2, s3, s4, Nat.le_trans (tpart_le _ _ _) n1, Nat.le_trans (tpart_le _ _ _) n2, Nat.le_trans (tpart_le _ _ _) n3, Nat.le_trans (tpart_le _ _ _) n4⟩
  repeat first
    | (apply WL.q; exact rfl; exact rfl; exact rfl; (first | (apply EvW.loadAgg; exact rfl; exact AggC.eq; exact SzC.eq; (focus ((repeat (first | exact Take.head | apply Take.tail)); done)); (focus ((repeat (first | exact SubL.nil | apply SubL.cons | apply SubL.succ)); done)))))
    | refine WC.seq ?_ | refine WC.region ?_ | refine WE.next ?_
  try refine WL.wanted rfl rfl rfl ?_
  apply WL.callA ([])
  · exact rfl
  · exact rfl
  · exact fun w => Try.call13 _ w
  · (focus ((repeat (first | exact TakeL.nil | apply TakeL.cons | exact Take.head | apply Take.tail)); done))
  · exact fun w1 S1 hS1 hs1 ho1 => rstatus_spec h (sOf h l a b y d) w1 S1 hS1 (hh.down hs1) (hS4 (ho1 (.own 3 1 (a) (tpart l 1 h.la.length).length ((tpart l 1 h.la.length).map i64)) _ (by (focus ((repeat (first | exact Take.head | apply Take.tail)); done)))).own (ho1 (.own 3 1 (b) (tpart l (1 + h.la.length) h.lb.length).length ((tpart l (1 + h.la.length) h.lb.length).map i64)) _ (by (focus ((repeat (first | exact Take.head | apply Take.tail)); done)))).own (ho1 (.own 3 1 (y) (tpart l (1 + h.la.length + h.lb.length) h.ly.length).length ((tpart l (1 + h.la.length + h.lb.length) h.ly.length).map i64)) _ (by (focus ((repeat (first | exact Take.head | apply Take.tail)); done)))).own (ho1 (.own 3 1 (d) (tpart l (1 + h.la.length + h.lb.length + h.ly.length) h.ld.length).length ((tpart l (1 + h.la.length + h.lb.length + h.ly.length) h.ld.length).map i64)) _ (by (focus ((repeat (first | exact Take.head | apply Take.tail)); done)))).own)
  rintro _ _ ⟨rfl, rfl⟩
  first | refine WL.app4 ?_ | refine WL.app3 ?_ | refine WL.app2 ?_ | refine WL.app1 ?_ | refine WL.app0 ?_ | skip
  cases o1 : sOk h (sOf h l a b y d)
  · rw [show g = false from by rw [← Bool.not_eq_true, hg, o1]; simp]
    rw [if_neg (by decide), if_neg (by decide)]
    repeat first
      | (apply WL.q; exact rfl; exact rfl; exact rfl; (first | (apply EvW.move; exact rfl) | (apply EvW.assign; exact rfl) | (apply EvW.extract; exact rfl; exact rfl) | (apply EvW.cmpT; exact rfl; exact rfl; exact rfl; omega) | (apply EvW.pickT; exact rfl; exact rfl) | (apply EvW.build; exact PlC.eq; exact ZvC.eq; exact rfl; exact rfl; (focus ((repeat (first | exact Fills.nil | (apply Fills.cons; exact rfl; (first | assumption | exact rfl); exact rfl) | exact SetMany.nil | apply SetMany.cons | apply SetMany.succ)); done)))))
      | refine WC.seq ?_ | refine WC.region ?_ | refine WL.nil ?_ | refine WE.next ?_ | refine WC.condT rfl ?_ | refine WC.ret ?_ | refine WE.passRet ?_ | refine WL.unwanted rfl rfl rfl rfl ?_ | (apply WL.store; exact rfl; exact rfl; (first | assumption | exact rfl); exact SzC.eq; (first | assumption | exact rfl); (focus ((repeat (first | apply UpdC.head | apply UpdC.tail | exact SetMany.nil | apply SetMany.cons | apply SetMany.succ)); done)))
    (apply WE.retC2 (A' := []); exact rfl; exact rfl; exact rfl; (focus ((repeat (first | exact Take.head | apply Take.tail)); done)); exact AggC.eq; exact SzC.eq; exact fun _ h => h.keep (by (focus ((repeat (first | exact TakeL.nil | apply TakeL.cons | exact Take.head | apply Take.tail)); done))))
    exact ⟨rfl, rfl⟩
  rw [if_pos rfl, if_pos rfl]
  by_cases hp : sPay (sOf h l a b y d) = l
  · rw [hp]
    rw [show g = true from by rw [hg, o1]; exact ⟨rfl, hp⟩]
    repeat first
      | (apply WL.q; exact rfl; exact rfl; exact rfl; (first | (apply EvW.move; exact rfl) | (apply EvW.assign; exact rfl) | (apply EvW.extract; exact rfl; exact rfl) | (apply EvW.cmpF; exact rfl; exact rfl; exact rfl; omega) | (apply EvW.pickF; exact rfl; exact rfl) | (apply EvW.sneS; exact rfl; exact rfl) | (apply EvW.loadAgg; exact rfl; exact AggC.eq; exact SzC.eq; (focus ((repeat (first | exact Take.head | apply Take.tail)); done)); (focus ((repeat (first | exact SubL.nil | apply SubL.cons | apply SubL.succ)); done)))))
      | refine WC.seq ?_ | refine WC.region ?_ | refine WL.nil ?_ | refine WE.next ?_ | refine WC.skip ?_ | refine WC.condF rfl ?_ | refine WL.wanted rfl rfl rfl ?_
    (first | refine WL.slOwn (v := a) (by (focus ((repeat (first | exact Take.head | apply Take.tail)); done))) ?_ | refine WC.slOwn (v := a) (by (focus ((repeat (first | exact Take.head | apply Take.tail)); done))) ?_)
    intro hc_a ho_a
    (first | refine WL.slOwn (v := b) (by (focus ((repeat (first | exact Take.head | apply Take.tail)); done))) ?_ | refine WC.slOwn (v := b) (by (focus ((repeat (first | exact Take.head | apply Take.tail)); done))) ?_)
    intro hc_b ho_b
    (first | refine WL.slOwn (v := y) (by (focus ((repeat (first | exact Take.head | apply Take.tail)); done))) ?_ | refine WC.slOwn (v := y) (by (focus ((repeat (first | exact Take.head | apply Take.tail)); done))) ?_)
    intro hc_y ho_y
    (first | refine WL.slOwn (v := d) (by (focus ((repeat (first | exact Take.head | apply Take.tail)); done))) ?_ | refine WC.slOwn (v := d) (by (focus ((repeat (first | exact Take.head | apply Take.tail)); done))) ?_)
    intro hc_d ho_d
    have hall : ([a, b, y, d] : List Value).all (·.oneCell') = true := by
      simp at ho_a ho_b ho_y ho_d
      simp [ho_a, ho_b, ho_y, ho_d]
    clear hc_a hc_b hc_y hc_d ho_a ho_b ho_y ho_d
    repeat first
      | (apply WL.q; exact rfl; exact rfl; exact rfl; (first | (apply EvW.assign; exact rfl)))
      | refine WL.nil ?_ | refine WE.next ?_ | refine WC.ret ?_ | (apply WL.store; exact rfl; exact rfl; (first | assumption | exact rfl); exact SzC.eq; (first | assumption | exact rfl); (focus ((repeat (first | apply UpdC.head | apply UpdC.tail | exact SetMany.nil | apply SetMany.cons | apply SetMany.succ)); done)))
    (apply WE.retC2 (A' := [.own 3 1 (a) (tpart l 1 h.la.length).length ((tpart l 1 h.la.length).map i64), .own 3 1 (b) (tpart l (1 + h.la.length) h.lb.length).length ((tpart l (1 + h.la.length) h.lb.length).map i64), .own 3 1 (y) (tpart l (1 + h.la.length + h.lb.length) h.ly.length).length ((tpart l (1 + h.la.length + h.lb.length) h.ly.length).map i64), .own 3 1 (d) (tpart l (1 + h.la.length + h.lb.length + h.ly.length) h.ld.length).length ((tpart l (1 + h.la.length + h.lb.length + h.ly.length) h.ld.length).map i64)]); exact rfl; exact rfl; exact rfl; (focus ((repeat (first | exact Take.head | apply Take.tail)); done)); exact AggC.eq; exact SzC.eq; exact fun _ h => h.keep (by (focus ((repeat (first | exact TakeL.nil | apply TakeL.cons | exact Take.head | apply Take.tail)); done))))
    exact ⟨a, b, y, d, rfl, rfl⟩
  · rw [show g = false from by rw [← Bool.not_eq_true, hg]; exact fun h => hp h.2]
    repeat first
      | (apply WL.q; exact rfl; exact rfl; exact rfl; (first | (apply EvW.move; exact rfl) | (apply EvW.assign; exact rfl) | (apply EvW.extract; exact rfl; exact rfl) | (apply EvW.cmpF; exact rfl; exact rfl; exact rfl; omega) | (apply EvW.pickF; exact rfl; exact rfl) | (apply EvW.sne; exact rfl; exact rfl)))
      | refine WC.seq ?_ | refine WC.region ?_ | refine WL.nil ?_ | refine WE.next ?_ | refine WL.wanted rfl rfl rfl ?_
    rw [decide_eq_true (show sPay (sOf h l a b y d) ≠ l from hp)]
    repeat first
      | (apply WL.q; exact rfl; exact rfl; exact rfl; (first | (apply EvW.assign; exact rfl) | (apply EvW.build; exact PlC.eq; exact ZvC.eq; exact rfl; exact rfl; (focus ((repeat (first | exact Fills.nil | (apply Fills.cons; exact rfl; (first | assumption | exact rfl); exact rfl) | exact SetMany.nil | apply SetMany.cons | apply SetMany.succ)); done)))))
      | refine WC.seq ?_ | refine WC.region ?_ | refine WL.nil ?_ | refine WE.next ?_ | refine WC.condT rfl ?_ | refine WC.ret ?_ | refine WE.passRet ?_ | (apply WL.store; exact rfl; exact rfl; (first | assumption | exact rfl); exact SzC.eq; (first | assumption | exact rfl); (focus ((repeat (first | apply UpdC.head | apply UpdC.tail | exact SetMany.nil | apply SetMany.cons | apply SetMany.succ)); done)))
    (apply WE.retC2 (A' := []); exact rfl; exact rfl; exact rfl; (focus ((repeat (first | exact Take.head | apply Take.tail)); done)); exact AggC.eq; exact SzC.eq; exact fun _ h => h.keep (by (focus ((repeat (first | exact TakeL.nil | apply TakeL.cons | exact Take.head | apply Take.tail)); done))))
    exact ⟨rfl, rfl⟩
theorem rrorders_spec (h : Q4) (l : List UInt8) (g : Bool) (w : World) (S : BSet) (hS : (sepL []).sat S w) (hh : h.Seen w S) (hl : l.length ≤ 140737488355328) (hg : g = true ↔ oGood h l) :
    Tri Try.prog 21 #[.agg #[(h).a, (h).b, (h).y, (h).d], str l] w S fun u A => if g = true then ∃ a b y : Value, u = .tuple #[.agg #[a, b, y], i64 0] ∧ A = [.own 3 1 (a) (tpart l 1 h.lb.length).length ((tpart l 1 h.lb.length).map i64), .own 3 1 (b) (tpart l (1 + h.lb.length) h.ld.length).length ((tpart l (1 + h.lb.length) h.ld.length).map i64), .own 3 1 (y) (tpart l (1 + h.lb.length + h.ld.length) h.ly.length).length ((tpart l (1 + h.lb.length + h.ld.length) h.ly.length).map i64)] else u = .tuple #[.agg #[.slice none 0 0, .slice none 0 0, .slice none 0 0], i64 3] ∧ A = [] := by
  refine Tri.enter (l := [.agg #[(h).a, (h).b, (h).y, (h).d], str l]) Try.func21 rfl Try.ntmps21 rfl [(0, .agg #[(h).a, (h).b, (h).y, (h).d]), (1, str l)] (subA rfl) hS ?_
  have g1 := hh.a
  have g2 := hh.b
  have g3 := hh.y
  have g4 := hh.d
  have n1 := hh.na
  have n2 := hh.nb
  have n3 := hh.ny
  have n4 := hh.nd
  repeat first
    | refine WC.seq ?_ | refine WC.region ?_
  try refine WL.wanted rfl rfl rfl ?_
  (apply WL.box; exact rfl; exact rfl; exact rfl; intro q1)
  skip
  try refine WL.wanted rfl rfl rfl ?_
  (apply WL.alloc; exact rfl; exact ZvC.eq; exact rfl; intro r)
  repeat first
    | (apply WL.q; exact rfl; exact rfl; exact rfl; (first | (apply EvW.assign; exact rfl)))
    | refine WC.seq ?_ | refine WL.nil ?_ | refine WE.next ?_
  repeat refine WC.seq ?_
  apply WC.drawQ Try.mixed
  · (focus ((repeat (first | exact Restr.nil | (apply Restr.keep; exact rfl; exact rfl) | (apply Restr.drop; exact rfl))); done))
  · exact rfl
  · decide +kernel
  · decide +kernel
  · repeat first
      | exact Draws.nil
      | (apply Draws.skip; exact rfl; exact rfl)
      | (apply Draws.q0; exact rfl
         (first | (apply EvW.assign; exact rfl) | (apply EvW.fieldAddr0; exact rfl; exact FldC.eq) | (apply EvW.load; exact rfl; exact ScalC.eq; (focus ((repeat (first | exact Take.head | apply Take.tail)); done)); exact rfl) | (apply EvW.lenRow; exact rfl; exact UndC.eq; assumption)))
  apply WE.writ
  · (focus ((repeat (first | exact Writ.nil | apply Writ.some | apply Writ.none)); done))
  repeat first
    | refine WC.seq ?_ | refine WE.next ?_
  repeat refine WC.seq ?_
  refine WC.keep (xs := [.blk q1 #[h.a, h.b, h.y, h.d] 33, .blk r #[.slice none 0 0, .slice none 0 0, .slice none 0 0] 46]) (by (focus ((repeat (first | exact TakeL.nil | apply TakeL.cons | exact Take.head | apply Take.tail)); done))) ?_
  apply WC.par _ (fun c : Ch => [.blk q1 #[h.a, h.b, h.y, h.d] 33, .own 3 1 ((c 2).2) (tpart l 1 h.lb.length).length ((tpart l 1 h.lb.length).map i64), .own 3 1 ((c 7).2) (tpart l (1 + h.lb.length) h.ld.length).length ((tpart l (1 + h.lb.length) h.ld.length).map i64), .own 3 1 ((c 16).2) (tpart l (1 + h.lb.length + h.ld.length) h.ly.length).length ((tpart l (1 + h.lb.length + h.ld.length) h.ly.length).map i64), .blk (c 18).1 #[.slice none 0 0, .slice none 0 0, .slice none 0 0] 46, .blk (c 18).1 #[(c 2).2, (c 7).2, (c 16).2] 46, .blk r #[.slice none 0 0, .slice none 0 0, .slice none 0 0] 46]) [none, some 2, some 7, some 16, some 18, some 19, none] [none, none, none, none, some 19, none, none] [(2, fun x => x.2), (7, fun x => x.2), (16, fun x => x.2), (18, fun x => ptr x.1 0)] Try.mixed
  · (focus ((repeat (first | exact Restr.nil | (apply Restr.keep; exact rfl; exact rfl) | (apply Restr.drop; exact rfl))); done))
  · intro c; exact (by (focus ((repeat (first | exact SelT.nil | apply SelT.yes | apply SelT.no)); done)))
  · exact rfl
  · decide +kernel
  · decide +kernel
  · intro c
    (apply Par.quiet _ [true, false, false, false, false, false, true]; exact rfl; decide +kernel; exact rfl; intro R; refine ⟨_, (by (focus ((repeat (first | exact SelT.nil | apply SelT.yes | apply SelT.no)); done))), ?_⟩;
         (first | (apply EvW.move; exact rfl)))
    (apply Par.quiet _ [true, false, false, false, false, false, true]; exact rfl; decide +kernel; exact rfl; intro R; refine ⟨_, (by (focus ((repeat (first | exact SelT.nil | apply SelT.yes | apply SelT.no)); done))), ?_⟩;
         (first | (apply EvW.move; exact rfl)))
    apply Par.new _ [false, false, false, false, false, false, false] [false, true, false, false, false, false, false] [true, false, false, false, false, false, true]
    · exact rfl
    · exact rfl
    · decide +kernel
    · intro R
      refine ⟨_, _, _, (by (focus ((repeat (first | exact SelT.nil | apply SelT.yes | apply SelT.no)); done))), (by (focus ((repeat (first | exact SelT.nil | apply SelT.yes | apply SelT.no)); done))), (fun x => (by (focus ((repeat (first | exact SelT.nil | apply SelT.yes | apply SelT.no)); done)))), ?_⟩
      apply NewW.call (fun x => [.own 3 1 (x.2) (tpart l 1 h.lb.length).length ((tpart l 1 h.lb.length).map i64)])
      · exact rfl
      · exact fun w1 S1 hS1 hs1 ho1 => rtake_spec l 1 h.lb.length w1 S1 hS1 hl (by decide) n2
      · exact fun w => Try.call42 _ w
      · (focus ((repeat (first | exact TakeL.nil | apply TakeL.cons | exact Take.head | apply Take.tail)); done))
      · rintro _ _ rfl; exact ⟨(0, _), rfl, rfl⟩
      · exact fun x _ h => TakeT.st (by (focus ((repeat (first | exact TakeT.tail | apply TakeT.cons | exact Take.head | apply Take.tail | apply TakeT.drop)); done))) h
    (apply Par.quiet _ [true, false, false, false, false, false, true]; exact rfl; decide +kernel; exact rfl; intro R; refine ⟨_, (by (focus ((repeat (first | exact SelT.nil | apply SelT.yes | apply SelT.no)); done))), ?_⟩;
         (first | (apply EvW.move; exact rfl)))
    (apply Par.quiet _ [true, false, false, false, false, false, true]; exact rfl; decide +kernel; exact rfl; intro R; refine ⟨_, (by (focus ((repeat (first | exact SelT.nil | apply SelT.yes | apply SelT.no)); done))), ?_⟩;
         (first | (apply EvW.move; exact rfl)))
    (apply Par.quiet _ [true, false, false, false, false, false, true]; exact rfl; decide +kernel; exact rfl; intro R; refine ⟨_, (by (focus ((repeat (first | exact SelT.nil | apply SelT.yes | apply SelT.no)); done))), ?_⟩;
         (first | (apply EvW.arN; exact rfl; exact rfl; exact rfl; refine i64_in ?_ ?_ <;> omega)))
    (apply Par.quiet _ [true, false, false, false, false, false, true]; exact rfl; decide +kernel; exact rfl; intro R; refine ⟨_, (by (focus ((repeat (first | exact SelT.nil | apply SelT.yes | apply SelT.no)); done))), ?_⟩;
         (first | (apply EvW.move; exact rfl)))
    apply Par.new _ [false, false, false, false, false, false, false] [false, false, true, false, false, false, false] [true, true, false, false, false, false, true]
    · exact rfl
    · exact rfl
    · decide +kernel
    · intro R
      refine ⟨_, _, _, (by (focus ((repeat (first | exact SelT.nil | apply SelT.yes | apply SelT.no)); done))), (by (focus ((repeat (first | exact SelT.nil | apply SelT.yes | apply SelT.no)); done))), (fun x => (by (focus ((repeat (first | exact SelT.nil | apply SelT.yes | apply SelT.no)); done)))), ?_⟩
      apply NewW.call (fun x => [.own 3 1 (x.2) (tpart l (1 + h.lb.length) h.ld.length).length ((tpart l (1 + h.lb.length) h.ld.length).map i64)])
      · exact rfl
      · exact fun w1 S1 hS1 hs1 ho1 => rtake_spec l (1 + h.lb.length) h.ld.length w1 S1 hS1 hl (by omega) n4
      · exact fun w => Try.call42 _ w
      · (focus ((repeat (first | exact TakeL.nil | apply TakeL.cons | exact Take.head | apply Take.tail)); done))
      · rintro _ _ rfl; exact ⟨(0, _), rfl, rfl⟩
      · exact fun x _ h => TakeT.st (by (focus ((repeat (first | exact TakeT.tail | apply TakeT.cons | exact Take.head | apply Take.tail | apply TakeT.drop)); done))) h
    (apply Par.quiet _ [true, false, false, false, false, false, true]; exact rfl; decide +kernel; exact rfl; intro R; refine ⟨_, (by (focus ((repeat (first | exact SelT.nil | apply SelT.yes | apply SelT.no)); done))), ?_⟩;
         (first | (apply EvW.move; exact rfl)))
    (apply Par.quiet _ [true, false, false, false, false, false, true]; exact rfl; decide +kernel; exact rfl; intro R; refine ⟨_, (by (focus ((repeat (first | exact SelT.nil | apply SelT.yes | apply SelT.no)); done))), ?_⟩;
         (first | (apply EvW.move; exact rfl)))
    (apply Par.quiet _ [true, false, false, false, false, false, true]; exact rfl; decide +kernel; exact rfl; intro R; refine ⟨_, (by (focus ((repeat (first | exact SelT.nil | apply SelT.yes | apply SelT.no)); done))), ?_⟩;
         (first | (apply EvW.arN; exact rfl; exact rfl; exact rfl; refine i64_in ?_ ?_ <;> omega)))
    (apply Par.quiet _ [true, false, false, false, false, false, true]; exact rfl; decide +kernel; exact rfl; intro R; refine ⟨_, (by (focus ((repeat (first | exact SelT.nil | apply SelT.yes | apply SelT.no)); done))), ?_⟩;
         (first | (apply EvW.move; exact rfl)))
    (apply Par.quiet _ [true, false, false, false, false, false, true]; exact rfl; decide +kernel; exact rfl; intro R; refine ⟨_, (by (focus ((repeat (first | exact SelT.nil | apply SelT.yes | apply SelT.no)); done))), ?_⟩;
         (first | (apply EvW.arN; exact rfl; exact rfl; exact rfl; refine i64_in ?_ ?_ <;> omega)))
    (apply Par.quiet _ [true, false, false, false, false, false, true]; exact rfl; decide +kernel; exact rfl; intro R; refine ⟨_, (by (focus ((repeat (first | exact SelT.nil | apply SelT.yes | apply SelT.no)); done))), ?_⟩;
         (first | (apply EvW.fieldAddr0; exact rfl; exact FldC.eq)))
    (apply Par.quiet _ [true, false, false, false, false, false, true]; exact rfl; decide +kernel; exact rfl; intro R; refine ⟨_, (by (focus ((repeat (first | exact SelT.nil | apply SelT.yes | apply SelT.no)); done))), ?_⟩;
         (first | (apply EvW.load; exact rfl; exact ScalC.eq; (focus ((repeat (first | exact Take.head | apply Take.tail)); done)); exact rfl)))
    (apply Par.quiet _ [true, false, false, false, false, false, true]; exact rfl; decide +kernel; exact rfl; intro R; refine ⟨_, (by (focus ((repeat (first | exact SelT.nil | apply SelT.yes | apply SelT.no)); done))), ?_⟩;
         (first | (apply EvW.lenRow; exact rfl; exact UndC.eq; assumption)))
    apply Par.new _ [false, false, false, false, false, false, false] [false, false, false, true, false, false, false] [true, true, true, false, false, false, true]
    · exact rfl
    · exact rfl
    · decide +kernel
    · intro R
      refine ⟨_, _, _, (by (focus ((repeat (first | exact SelT.nil | apply SelT.yes | apply SelT.no)); done))), (by (focus ((repeat (first | exact SelT.nil | apply SelT.yes | apply SelT.no)); done))), (fun x => (by (focus ((repeat (first | exact SelT.nil | apply SelT.yes | apply SelT.no)); done)))), ?_⟩
      apply NewW.call (fun x => [.own 3 1 (x.2) (tpart l (1 + h.lb.length + h.ld.length) h.ly.length).length ((tpart l (1 + h.lb.length + h.ld.length) h.ly.length).map i64)])
      · exact rfl
      · exact fun w1 S1 hS1 hs1 ho1 => rtake_spec l (1 + h.lb.length + h.ld.length) h.ly.length w1 S1 hS1 hl (by omega) n3
      · exact fun w => Try.call42 _ w
      · (focus ((repeat (first | exact TakeL.nil | apply TakeL.cons | exact Take.head | apply Take.tail)); done))
      · rintro _ _ rfl; exact ⟨(0, _), rfl, rfl⟩
      · exact fun x _ h => TakeT.st (by (focus ((repeat (first | exact TakeT.tail | apply TakeT.cons | exact Take.head | apply Take.tail | apply TakeT.drop)); done))) h
    apply Par.quiet _ [true, true, true, true, false, false, true]
    · exact rfl
    · decide +kernel
    · exact rfl
    · intro R
      refine ⟨_, (by (focus ((repeat (first | exact SelT.nil | apply SelT.yes | apply SelT.no)); done))), ?_⟩
      (apply EvW.slOwn (c 2).2; (focus ((repeat (first | exact Take.head | apply Take.tail)); done)); intro hc1 _; apply EvW.slOwn (c 7).2; (focus ((repeat (first | exact Take.head | apply Take.tail)); done)); intro hc2 _; apply EvW.slOwn (c 16).2; (focus ((repeat (first | exact Take.head | apply Take.tail)); done)); intro hc3 _; (apply EvW.build; exact PlC.eq; exact ZvC.eq; exact rfl; exact rfl; (focus ((repeat (first | exact Fills.nil | (apply Fills.cons; exact rfl; (first | assumption | exact rfl); exact rfl) | exact SetMany.nil | apply SetMany.cons | apply SetMany.succ)); done))))
    (apply Par.new _ [false, false, false, false, false, false, false] [false, false, false, false, true, false, false] [true, false, false, false, false, false, true]; exact rfl; exact rfl; decide +kernel; intro R; refine ⟨_, _, _, (by (focus ((repeat (first | exact SelT.nil | apply SelT.yes | apply SelT.no)); done))), (by (focus ((repeat (first | exact SelT.nil | apply SelT.yes | apply SelT.no)); done))), (fun x => (by (focus ((repeat (first | exact SelT.nil | apply SelT.yes | apply SelT.no)); done)))), ?_⟩; (apply NewW.alloc; exact ZvC.eq; exact rfl; exact fun _ => rfl))
    apply Par.eff _ [false, false, false, false, true, false, false] [false, false, false, false, false, true, false] [true, true, true, true, false, false, true]
    · exact rfl
    · exact rfl
    · decide +kernel
    · intro R
      refine ⟨_, _, _, (by (focus ((repeat (first | exact SelT.nil | apply SelT.yes | apply SelT.no)); done))), (by (focus ((repeat (first | exact SelT.nil | apply SelT.yes | apply SelT.no)); done))), (by (focus ((repeat (first | exact SelT.nil | apply SelT.yes | apply SelT.no)); done))), ?_⟩
      (apply EffW.slOwn (c 2).2; (focus ((repeat (first | exact Take.head | apply Take.tail)); done)); intro _ ho1; apply EffW.slOwn (c 7).2; (focus ((repeat (first | exact Take.head | apply Take.tail)); done)); intro _ ho2; apply EffW.slOwn (c 16).2; (focus ((repeat (first | exact Take.head | apply Take.tail)); done)); intro _ ho3; (apply EffW.store; exact rfl; exact rfl; exact rfl; exact SzC.eq; (simp [ho1, ho2, ho3]); (focus ((repeat (first | apply UpdC.head | apply UpdC.tail | exact SetMany.nil | apply SetMany.cons | apply SetMany.succ)); done))))
    exact Par.nil
  · repeat (first | exact AllN.nil | (apply AllN.cons; (intro c x; (repeat (first | exact IndA.nil | (apply IndA.skip; decide +kernel) | apply IndA.same))))) 
  · repeat (first | exact AllN.nil | (apply AllN.cons; (intro c x; (repeat (first | exact IndT.nil | (apply IndT.skip; decide +kernel) | apply IndT.same))))) 
  · exact fun _ => rfl
  intro c
  refine ⟨_, (by (focus ((repeat (first | exact SelT.nil | apply SelT.yes | apply SelT.no)); done))), ?_⟩
  apply WE.writ
  · (focus ((repeat (first | exact Writ.nil | apply Writ.some | apply Writ.none)); done))
  generalize (c 18).1 = b18
  generalize (c 2).2 = a
  generalize (c 7).2 = b
  generalize (c 16).2 = y
  rw [oGood_iff h l a b y] at hg
  have hS4 : ∀ {w' : World} {S' : BSet}, Sees w' S' (.row 1 a (tpart l 1 h.lb.length).length ((tpart l 1 h.lb.length).map i64)) → Sees w' S' (.row 1 b (tpart l (1 + h.lb.length) h.ld.length).length ((tpart l (1 + h.lb.length) h.ld.length).map i64)) → Sees w' S' (.row 1 y (tpart l (1 + h.lb.length + h.ld.length) h.ly.length).length ((tpart l (1 + h.lb.length + h.ld.length) h.ly.length).map i64)) → (oOf h l a b y).Seen w' S' := fun s1 s2 s3 => ⟨s1, s2, s3, Nat.le_trans (tpart_le _ _ _) n2, Nat.le_trans (tpart_le _ _ _) n4, Nat.le_trans (tpart_le _ _ _) n3⟩
  repeat first
    | (apply WL.q; exact rfl; exact rfl; exact rfl; (first | (apply EvW.loadAgg; exact rfl; exact AggC.eq; exact SzC.eq; (focus ((repeat (first | exact Take.head | apply Take.tail)); done)); (focus ((repeat (first | exact SubL.nil | apply SubL.cons | apply SubL.succ)); done)))))
    | refine WC.seq ?_ | refine WC.region ?_ | refine WE.next ?_
  try refine WL.wanted rfl rfl rfl ?_
  apply WL.callA ([])
  · exact rfl
  · exact rfl
  · exact fun w => Try.call15 _ w
  · (focus ((repeat (first | exact TakeL.nil | apply TakeL.cons | exact Take.head | apply Take.tail)); done))
  · exact fun w1 S1 hS1 hs1 ho1 => rorders_spec h (oOf h l a b y) w1 S1 hS1 (hh.down hs1) (hS4 (ho1 (.own 3 1 (a) (tpart l 1 h.lb.length).length ((tpart l 1 h.lb.length).map i64)) _ (by (focus ((repeat (first | exact Take.head | apply Take.tail)); done)))).own (ho1 (.own 3 1 (b) (tpart l (1 + h.lb.length) h.ld.length).length ((tpart l (1 + h.lb.length) h.ld.length).map i64)) _ (by (focus ((repeat (first | exact Take.head | apply Take.tail)); done)))).own (ho1 (.own 3 1 (y) (tpart l (1 + h.lb.length + h.ld.length) h.ly.length).length ((tpart l (1 + h.lb.length + h.ld.length) h.ly.length).map i64)) _ (by (focus ((repeat (first | exact Take.head | apply Take.tail)); done)))).own)
  rintro _ _ ⟨rfl, rfl⟩
  first | refine WL.app4 ?_ | refine WL.app3 ?_ | refine WL.app2 ?_ | refine WL.app1 ?_ | refine WL.app0 ?_ | skip
  cases o1 : oOk h (oOf h l a b y)
  · rw [show g = false from by rw [← Bool.not_eq_true, hg, o1]; simp]
    rw [if_neg (by decide), if_neg (by decide)]
    repeat first
      | (apply WL.q; exact rfl; exact rfl; exact rfl; (first | (apply EvW.move; exact rfl) | (apply EvW.assign; exact rfl) | (apply EvW.extract; exact rfl; exact rfl) | (apply EvW.cmpT; exact rfl; exact rfl; exact rfl; omega) | (apply EvW.pickT; exact rfl; exact rfl) | (apply EvW.build; exact PlC.eq; exact ZvC.eq; exact rfl; exact rfl; (focus ((repeat (first | exact Fills.nil | (apply Fills.cons; exact rfl; (first | assumption | exact rfl); exact rfl) | exact SetMany.nil | apply SetMany.cons | apply SetMany.succ)); done)))))
      | refine WC.seq ?_ | refine WC.region ?_ | refine WL.nil ?_ | refine WE.next ?_ | refine WC.condT rfl ?_ | refine WC.ret ?_ | refine WE.passRet ?_ | refine WL.unwanted rfl rfl rfl rfl ?_ | (apply WL.store; exact rfl; exact rfl; (first | assumption | exact rfl); exact SzC.eq; (first | assumption | exact rfl); (focus ((repeat (first | apply UpdC.head | apply UpdC.tail | exact SetMany.nil | apply SetMany.cons | apply SetMany.succ)); done)))
    (apply WE.retC2 (A' := []); exact rfl; exact rfl; exact rfl; (focus ((repeat (first | exact Take.head | apply Take.tail)); done)); exact AggC.eq; exact SzC.eq; exact fun _ h => h.keep (by (focus ((repeat (first | exact TakeL.nil | apply TakeL.cons | exact Take.head | apply Take.tail)); done))))
    exact ⟨rfl, rfl⟩
  rw [if_pos rfl, if_pos rfl]
  by_cases hp : oPay (oOf h l a b y) = l
  · rw [hp]
    rw [show g = true from by rw [hg, o1]; exact ⟨rfl, hp⟩]
    repeat first
      | (apply WL.q; exact rfl; exact rfl; exact rfl; (first | (apply EvW.move; exact rfl) | (apply EvW.assign; exact rfl) | (apply EvW.extract; exact rfl; exact rfl) | (apply EvW.cmpF; exact rfl; exact rfl; exact rfl; omega) | (apply EvW.pickF; exact rfl; exact rfl) | (apply EvW.sneS; exact rfl; exact rfl) | (apply EvW.loadAgg; exact rfl; exact AggC.eq; exact SzC.eq; (focus ((repeat (first | exact Take.head | apply Take.tail)); done)); (focus ((repeat (first | exact SubL.nil | apply SubL.cons | apply SubL.succ)); done)))))
      | refine WC.seq ?_ | refine WC.region ?_ | refine WL.nil ?_ | refine WE.next ?_ | refine WC.skip ?_ | refine WC.condF rfl ?_ | refine WL.wanted rfl rfl rfl ?_
    (first | refine WL.slOwn (v := a) (by (focus ((repeat (first | exact Take.head | apply Take.tail)); done))) ?_ | refine WC.slOwn (v := a) (by (focus ((repeat (first | exact Take.head | apply Take.tail)); done))) ?_)
    intro hc_a ho_a
    (first | refine WL.slOwn (v := b) (by (focus ((repeat (first | exact Take.head | apply Take.tail)); done))) ?_ | refine WC.slOwn (v := b) (by (focus ((repeat (first | exact Take.head | apply Take.tail)); done))) ?_)
    intro hc_b ho_b
    (first | refine WL.slOwn (v := y) (by (focus ((repeat (first | exact Take.head | apply Take.tail)); done))) ?_ | refine WC.slOwn (v := y) (by (focus ((repeat (first | exact Take.head | apply Take.tail)); done))) ?_)
    intro hc_y ho_y
    have hall : ([a, b, y] : List Value).all (·.oneCell') = true := by
      simp at ho_a ho_b ho_y
      simp [ho_a, ho_b, ho_y]
    clear hc_a hc_b hc_y ho_a ho_b ho_y
    repeat first
      | (apply WL.q; exact rfl; exact rfl; exact rfl; (first | (apply EvW.assign; exact rfl)))
      | refine WL.nil ?_ | refine WE.next ?_ | refine WC.ret ?_ | (apply WL.store; exact rfl; exact rfl; (first | assumption | exact rfl); exact SzC.eq; (first | assumption | exact rfl); (focus ((repeat (first | apply UpdC.head | apply UpdC.tail | exact SetMany.nil | apply SetMany.cons | apply SetMany.succ)); done)))
    (apply WE.retC2 (A' := [.own 3 1 (a) (tpart l 1 h.lb.length).length ((tpart l 1 h.lb.length).map i64), .own 3 1 (b) (tpart l (1 + h.lb.length) h.ld.length).length ((tpart l (1 + h.lb.length) h.ld.length).map i64), .own 3 1 (y) (tpart l (1 + h.lb.length + h.ld.length) h.ly.length).length ((tpart l (1 + h.lb.length + h.ld.length) h.ly.length).map i64)]); exact rfl; exact rfl; exact rfl; (focus ((repeat (first | exact Take.head | apply Take.tail)); done)); exact AggC.eq; exact SzC.eq; exact fun _ h => h.keep (by (focus ((repeat (first | exact TakeL.nil | apply TakeL.cons | exact Take.head | apply Take.tail)); done))))
    exact ⟨a, b, y, rfl, rfl⟩
  · rw [show g = false from by rw [← Bool.not_eq_true, hg]; exact fun h => hp h.2]
    repeat first
      | (apply WL.q; exact rfl; exact rfl; exact rfl; (first | (apply EvW.move; exact rfl) | (apply EvW.assign; exact rfl) | (apply EvW.extract; exact rfl; exact rfl) | (apply EvW.cmpF; exact rfl; exact rfl; exact rfl; omega) | (apply EvW.pickF; exact rfl; exact rfl) | (apply EvW.sne; exact rfl; exact rfl)))
      | refine WC.seq ?_ | refine WC.region ?_ | refine WL.nil ?_ | refine WE.next ?_ | refine WL.wanted rfl rfl rfl ?_
    rw [decide_eq_true (show oPay (oOf h l a b y) ≠ l from hp)]
    repeat first
      | (apply WL.q; exact rfl; exact rfl; exact rfl; (first | (apply EvW.assign; exact rfl) | (apply EvW.build; exact PlC.eq; exact ZvC.eq; exact rfl; exact rfl; (focus ((repeat (first | exact Fills.nil | (apply Fills.cons; exact rfl; (first | assumption | exact rfl); exact rfl) | exact SetMany.nil | apply SetMany.cons | apply SetMany.succ)); done)))))
      | refine WC.seq ?_ | refine WC.region ?_ | refine WL.nil ?_ | refine WE.next ?_ | refine WC.condT rfl ?_ | refine WC.ret ?_ | refine WE.passRet ?_ | (apply WL.store; exact rfl; exact rfl; (first | assumption | exact rfl); exact SzC.eq; (first | assumption | exact rfl); (focus ((repeat (first | apply UpdC.head | apply UpdC.tail | exact SetMany.nil | apply SetMany.cons | apply SetMany.succ)); done)))
    (apply WE.retC2 (A' := []); exact rfl; exact rfl; exact rfl; (focus ((repeat (first | exact Take.head | apply Take.tail)); done)); exact AggC.eq; exact SzC.eq; exact fun _ h => h.keep (by (focus ((repeat (first | exact TakeL.nil | apply TakeL.cons | exact Take.head | apply Take.tail)); done))))
    exact ⟨rfl, rfl⟩
theorem sameStatus_spec (x y : Q4) (w : World) (S : BSet) (hS : (sepL []).sat S w) (hx : x.Seen w S) (hy : y.Seen w S) (ea : y.la = x.la) (eb : y.lb = x.lb) (ey : y.ly = x.ly) (ed : y.ld = x.ld) :
    Tri Try.prog 24 #[.agg #[(x).a, (x).b, (x).y, (x).d], .agg #[(y).a, (y).b, (y).y, (y).d]] w S fun u A => u = .bool true ∧ A = [] := by
  refine Tri.enter (l := [.agg #[(x).a, (x).b, (x).y, (x).d], .agg #[(y).a, (y).b, (y).y, (y).d]]) Try.func24 rfl Try.ntmps24 rfl [(0, .agg #[(x).a, (x).b, (x).y, (x).d]), (1, .agg #[(y).a, (y).b, (y).y, (y).d])] (subA rfl) hS ?_
  have ga := hy.a
  have gb := hy.b
  have gy := hy.y
  have gd := hy.d
  rw [ea] at ga
  rw [eb] at gb
  rw [ey] at gy
  rw [ed] at gd
  repeat first
    | refine WC.seq ?_ | refine WC.region ?_
  try refine WL.wanted rfl rfl rfl ?_
  (apply WL.box; exact rfl; exact rfl; exact rfl; intro q1)
  skip
  try refine WL.wanted rfl rfl rfl ?_
  (apply WL.box; exact rfl; exact rfl; exact rfl; intro q2)
  repeat first
    | (apply WL.q; exact rfl; exact rfl; exact rfl; (first | (apply EvW.assign; exact rfl) | (apply EvW.fieldAddr0; exact rfl; exact FldC.eq) | (apply EvW.load; exact rfl; exact ScalC.eq; (focus ((repeat (first | exact Take.head | apply Take.tail)); done)); exact rfl)))
    | refine WC.seq ?_ | refine WC.region ?_ | refine WL.nil ?_ | refine WE.next ?_
  try refine WL.wanted rfl rfl rfl ?_
  apply WL.callA ([])
  · exact rfl
  · exact rfl
  · exact fun w => Try.call28 _ w
  · (focus ((repeat (first | exact TakeL.nil | apply TakeL.cons | exact Take.head | apply Take.tail)); done))
  · exact fun w1 S1 hS1 hs1 ho1 => sameInts_spec x.la x.a y.a w1 S1 hS1 (hs1 _ hx.a) (hs1 _ ga) (Nat.le_trans hx.na (by decide))
  rintro _ _ ⟨rfl, rfl⟩
  first | refine WL.app4 ?_ | refine WL.app3 ?_ | refine WL.app2 ?_ | refine WL.app1 ?_ | refine WL.app0 ?_ | skip
  repeat first
    | (apply WL.q; exact rfl; exact rfl; exact rfl; (first | (apply EvW.move; exact rfl) | (apply EvW.fieldAddr0; exact rfl; exact FldC.eq) | (apply EvW.load; exact rfl; exact ScalC.eq; (focus ((repeat (first | exact Take.head | apply Take.tail)); done)); exact rfl)))
    | refine WL.wanted rfl rfl rfl ?_
  try refine WL.wanted rfl rfl rfl ?_
  apply WL.callA ([])
  · exact rfl
  · exact rfl
  · exact fun w => Try.call28 _ w
  · (focus ((repeat (first | exact TakeL.nil | apply TakeL.cons | exact Take.head | apply Take.tail)); done))
  · exact fun w1 S1 hS1 hs1 ho1 => sameInts_spec x.lb x.b y.b w1 S1 hS1 (hs1 _ hx.b) (hs1 _ gb) (Nat.le_trans hx.nb (by decide))
  rintro _ _ ⟨rfl, rfl⟩
  first | refine WL.app4 ?_ | refine WL.app3 ?_ | refine WL.app2 ?_ | refine WL.app1 ?_ | refine WL.app0 ?_ | skip
  repeat first
    | (apply WL.q; exact rfl; exact rfl; exact rfl; (first | (apply EvW.move; exact rfl) | (apply EvW.fieldAddr0; exact rfl; exact FldC.eq) | (apply EvW.load; exact rfl; exact ScalC.eq; (focus ((repeat (first | exact Take.head | apply Take.tail)); done)); exact rfl) | (apply EvW.pickT; exact rfl; exact rfl)))
    | refine WL.wanted rfl rfl rfl ?_
  try refine WL.wanted rfl rfl rfl ?_
  apply WL.callA ([])
  · exact rfl
  · exact rfl
  · exact fun w => Try.call28 _ w
  · (focus ((repeat (first | exact TakeL.nil | apply TakeL.cons | exact Take.head | apply Take.tail)); done))
  · exact fun w1 S1 hS1 hs1 ho1 => sameInts_spec x.ly x.y y.y w1 S1 hS1 (hs1 _ hx.y) (hs1 _ gy) (Nat.le_trans hx.ny (by decide))
  rintro _ _ ⟨rfl, rfl⟩
  first | refine WL.app4 ?_ | refine WL.app3 ?_ | refine WL.app2 ?_ | refine WL.app1 ?_ | refine WL.app0 ?_ | skip
  repeat first
    | (apply WL.q; exact rfl; exact rfl; exact rfl; (first | (apply EvW.move; exact rfl) | (apply EvW.fieldAddr0; exact rfl; exact FldC.eq) | (apply EvW.load; exact rfl; exact ScalC.eq; (focus ((repeat (first | exact Take.head | apply Take.tail)); done)); exact rfl) | (apply EvW.pickT; exact rfl; exact rfl)))
    | refine WL.wanted rfl rfl rfl ?_
  try refine WL.wanted rfl rfl rfl ?_
  apply WL.callA ([])
  · exact rfl
  · exact rfl
  · exact fun w => Try.call28 _ w
  · (focus ((repeat (first | exact TakeL.nil | apply TakeL.cons | exact Take.head | apply Take.tail)); done))
  · exact fun w1 S1 hS1 hs1 ho1 => sameInts_spec x.ld x.d y.d w1 S1 hS1 (hs1 _ hx.d) (hs1 _ gd) (Nat.le_trans hx.nd (by decide))
  rintro _ _ ⟨rfl, rfl⟩
  first | refine WL.app4 ?_ | refine WL.app3 ?_ | refine WL.app2 ?_ | refine WL.app1 ?_ | refine WL.app0 ?_ | skip
  repeat first
    | (apply WL.q; exact rfl; exact rfl; exact rfl; (first | (apply EvW.assign; exact rfl) | (apply EvW.pickT; exact rfl; exact rfl)))
    | refine WL.nil ?_ | refine WE.next ?_ | refine WC.ret ?_
  refine WE.bare ?_
  refine WE.ret1 rfl rfl ?_
  exact ⟨rfl, rfl⟩
theorem sameOrders_spec (x y : Q3) (w : World) (S : BSet) (hS : (sepL []).sat S w) (hx : x.Seen w S) (hy : y.Seen w S) (ea : y.la = x.la) (eb : y.lb = x.lb) (ey : y.ly = x.ly) :
    Tri Try.prog 25 #[.agg #[(x).a, (x).b, (x).y], .agg #[(y).a, (y).b, (y).y]] w S fun u A => u = .bool true ∧ A = [] := by
  refine Tri.enter (l := [.agg #[(x).a, (x).b, (x).y], .agg #[(y).a, (y).b, (y).y]]) Try.func25 rfl Try.ntmps25 rfl [(0, .agg #[(x).a, (x).b, (x).y]), (1, .agg #[(y).a, (y).b, (y).y])] (subA rfl) hS ?_
  have ga := hy.a
  have gb := hy.b
  have gy := hy.y
  rw [ea] at ga
  rw [eb] at gb
  rw [ey] at gy
  repeat first
    | refine WC.seq ?_ | refine WC.region ?_
  try refine WL.wanted rfl rfl rfl ?_
  (apply WL.box; exact rfl; exact rfl; exact rfl; intro q1)
  skip
  try refine WL.wanted rfl rfl rfl ?_
  (apply WL.box; exact rfl; exact rfl; exact rfl; intro q2)
  repeat first
    | (apply WL.q; exact rfl; exact rfl; exact rfl; (first | (apply EvW.assign; exact rfl) | (apply EvW.fieldAddr0; exact rfl; exact FldC.eq) | (apply EvW.load; exact rfl; exact ScalC.eq; (focus ((repeat (first | exact Take.head | apply Take.tail)); done)); exact rfl)))
    | refine WC.seq ?_ | refine WC.region ?_ | refine WL.nil ?_ | refine WE.next ?_
  try refine WL.wanted rfl rfl rfl ?_
  apply WL.callA ([])
  · exact rfl
  · exact rfl
  · exact fun w => Try.call28 _ w
  · (focus ((repeat (first | exact TakeL.nil | apply TakeL.cons | exact Take.head | apply Take.tail)); done))
  · exact fun w1 S1 hS1 hs1 ho1 => sameInts_spec x.la x.a y.a w1 S1 hS1 (hs1 _ hx.a) (hs1 _ ga) (Nat.le_trans hx.na (by decide))
  rintro _ _ ⟨rfl, rfl⟩
  first | refine WL.app4 ?_ | refine WL.app3 ?_ | refine WL.app2 ?_ | refine WL.app1 ?_ | refine WL.app0 ?_ | skip
  repeat first
    | (apply WL.q; exact rfl; exact rfl; exact rfl; (first | (apply EvW.move; exact rfl) | (apply EvW.fieldAddr0; exact rfl; exact FldC.eq) | (apply EvW.load; exact rfl; exact ScalC.eq; (focus ((repeat (first | exact Take.head | apply Take.tail)); done)); exact rfl)))
    | refine WL.wanted rfl rfl rfl ?_
  try refine WL.wanted rfl rfl rfl ?_
  apply WL.callA ([])
  · exact rfl
  · exact rfl
  · exact fun w => Try.call28 _ w
  · (focus ((repeat (first | exact TakeL.nil | apply TakeL.cons | exact Take.head | apply Take.tail)); done))
  · exact fun w1 S1 hS1 hs1 ho1 => sameInts_spec x.lb x.b y.b w1 S1 hS1 (hs1 _ hx.b) (hs1 _ gb) (Nat.le_trans hx.nb (by decide))
  rintro _ _ ⟨rfl, rfl⟩
  first | refine WL.app4 ?_ | refine WL.app3 ?_ | refine WL.app2 ?_ | refine WL.app1 ?_ | refine WL.app0 ?_ | skip
  repeat first
    | (apply WL.q; exact rfl; exact rfl; exact rfl; (first | (apply EvW.move; exact rfl) | (apply EvW.fieldAddr0; exact rfl; exact FldC.eq) | (apply EvW.load; exact rfl; exact ScalC.eq; (focus ((repeat (first | exact Take.head | apply Take.tail)); done)); exact rfl) | (apply EvW.pickT; exact rfl; exact rfl)))
    | refine WL.wanted rfl rfl rfl ?_
  try refine WL.wanted rfl rfl rfl ?_
  apply WL.callA ([])
  · exact rfl
  · exact rfl
  · exact fun w => Try.call28 _ w
  · (focus ((repeat (first | exact TakeL.nil | apply TakeL.cons | exact Take.head | apply Take.tail)); done))
  · exact fun w1 S1 hS1 hs1 ho1 => sameInts_spec x.ly x.y y.y w1 S1 hS1 (hs1 _ hx.y) (hs1 _ gy) (Nat.le_trans hx.ny (by decide))
  rintro _ _ ⟨rfl, rfl⟩
  first | refine WL.app4 ?_ | refine WL.app3 ?_ | refine WL.app2 ?_ | refine WL.app1 ?_ | refine WL.app0 ?_ | skip
  repeat first
    | (apply WL.q; exact rfl; exact rfl; exact rfl; (first | (apply EvW.assign; exact rfl) | (apply EvW.pickT; exact rfl; exact rfl)))
    | refine WL.nil ?_ | refine WE.next ?_ | refine WC.ret ?_
  refine WE.bare ?_
  refine WE.ret1 rfl rfl ?_
  exact ⟨rfl, rfl⟩
theorem lives10_spec  (w : World) (S : BSet) (hS : (sepL []).sat S w)  :
    Tri Try.prog 8 #[] w S fun u A => u = .bool true ∧ A = [] := by
  refine Tri.enter (l := []) Try.func8 rfl Try.ntmps8 rfl [] (subA rfl) hS ?_
  have hk1 : ∀ a b y d a' b' y' d' : Value, sOk ⟨a, b, y, d, [1, 2], [1], [0], [1]⟩ ⟨a', b', y', d', [1, 0], [2], [1], [1]⟩ = true := fun _ _ _ _ _ _ _ _ => rfl
  have hk2 : ∀ a b y d a' b' y' : Value, oOk ⟨a, b, y, d, [1, 2], [1], [0], [1]⟩ ⟨a', b', y', [0], [2], [0]⟩ = true := fun _ _ _ _ _ _ _ => rfl
  have hp1 : ∀ a' b' y' d' : Value, sPay ⟨a', b', y', d', [1, 0], [2], [1], [1]⟩ = [1, 1, 0, 2, 1, 1] := fun _ _ _ _ => rfl
  have hp2 : ∀ a' b' y' : Value, oPay ⟨a', b', y', [0], [2], [0]⟩ = [2, 0, 2, 0] := fun _ _ _ => rfl
  repeat first
    | (apply WL.q; exact rfl; exact rfl; exact rfl; (first | (apply EvW.assign; exact rfl)))
    | refine WC.seq ?_ | refine WC.region ?_ | refine WL.nil ?_ | refine WE.next ?_
  try refine WL.wanted rfl rfl rfl ?_
  (apply WL.buildSlice; exact rfl; exact UndC.eq; exact SzC.eq; exact ZvC.eq; exact rfl; exact rfl; exact rfl; ((focus ((repeat (first | exact Flat.nil | (apply Flat.one; (first | exact rfl | assumption)) | (apply Flat.cons; exact rfl; exact rfl))); done))); exact rfl; exact rfl; intro c1)
  skip
  try refine WL.wanted rfl rfl rfl ?_
  (apply WL.buildSlice; exact rfl; exact UndC.eq; exact SzC.eq; exact ZvC.eq; exact rfl; exact rfl; exact rfl; ((focus ((repeat (first | exact Flat.nil | (apply Flat.one; (first | exact rfl | assumption)) | (apply Flat.cons; exact rfl; exact rfl))); done))); exact rfl; exact rfl; intro c2)
  skip
  try refine WL.wanted rfl rfl rfl ?_
  (apply WL.buildSlice; exact rfl; exact UndC.eq; exact SzC.eq; exact ZvC.eq; exact rfl; exact rfl; exact rfl; ((focus ((repeat (first | exact Flat.nil | (apply Flat.one; (first | exact rfl | assumption)) | (apply Flat.cons; exact rfl; exact rfl))); done))); exact rfl; exact rfl; intro c3)
  skip
  try refine WL.wanted rfl rfl rfl ?_
  (apply WL.buildSlice; exact rfl; exact UndC.eq; exact SzC.eq; exact ZvC.eq; exact rfl; exact rfl; exact rfl; ((focus ((repeat (first | exact Flat.nil | (apply Flat.one; (first | exact rfl | assumption)) | (apply Flat.cons; exact rfl; exact rfl))); done))); exact rfl; exact rfl; intro c4)
  repeat first
    | (apply WL.q; exact rfl; exact rfl; exact rfl; (first | (apply EvW.build; exact PlC.eq; exact ZvC.eq; exact rfl; exact rfl; (focus ((repeat (first | exact Fills.nil | (apply Fills.cons; exact rfl; (first | assumption | exact rfl); exact rfl) | exact SetMany.nil | apply SetMany.cons | apply SetMany.succ)); done)))))
  try refine WL.wanted rfl rfl rfl ?_
  (apply WL.alloc; exact rfl; exact ZvC.eq; exact rfl; intro x)
  repeat first
    | (apply WL.q; exact rfl; exact rfl; exact rfl; (first | (apply EvW.loadAgg; exact rfl; exact AggC.eq; exact SzC.eq; (focus ((repeat (first | exact Take.head | apply Take.tail)); done)); (focus ((repeat (first | exact SubL.nil | apply SubL.cons | apply SubL.succ)); done)))))
    | refine WC.seq ?_ | refine WC.region ?_ | refine WL.nil ?_ | refine WE.next ?_ | (apply WL.store; exact rfl; exact rfl; (first | assumption | exact rfl); exact SzC.eq; (first | assumption | exact rfl); (focus ((repeat (first | apply UpdC.head | apply UpdC.tail | exact SetMany.nil | apply SetMany.cons | apply SetMany.succ)); done)))
  try refine WL.wanted rfl rfl rfl ?_
  (apply WL.buildSlice; exact rfl; exact UndC.eq; exact SzC.eq; exact ZvC.eq; exact rfl; exact rfl; exact rfl; ((focus ((repeat (first | exact Flat.nil | (apply Flat.one; (first | exact rfl | assumption)) | (apply Flat.cons; exact rfl; exact rfl))); done))); exact rfl; exact rfl; intro d1)
  skip
  try refine WL.wanted rfl rfl rfl ?_
  (apply WL.buildSlice; exact rfl; exact UndC.eq; exact SzC.eq; exact ZvC.eq; exact rfl; exact rfl; exact rfl; ((focus ((repeat (first | exact Flat.nil | (apply Flat.one; (first | exact rfl | assumption)) | (apply Flat.cons; exact rfl; exact rfl))); done))); exact rfl; exact rfl; intro d2)
  skip
  try refine WL.wanted rfl rfl rfl ?_
  (apply WL.buildSlice; exact rfl; exact UndC.eq; exact SzC.eq; exact ZvC.eq; exact rfl; exact rfl; exact rfl; ((focus ((repeat (first | exact Flat.nil | (apply Flat.one; (first | exact rfl | assumption)) | (apply Flat.cons; exact rfl; exact rfl))); done))); exact rfl; exact rfl; intro d3)
  skip
  try refine WL.wanted rfl rfl rfl ?_
  (apply WL.buildSlice; exact rfl; exact UndC.eq; exact SzC.eq; exact ZvC.eq; exact rfl; exact rfl; exact rfl; ((focus ((repeat (first | exact Flat.nil | (apply Flat.one; (first | exact rfl | assumption)) | (apply Flat.cons; exact rfl; exact rfl))); done))); exact rfl; exact rfl; intro d4)
  repeat first
    | (apply WL.q; exact rfl; exact rfl; exact rfl; (first | (apply EvW.build; exact PlC.eq; exact ZvC.eq; exact rfl; exact rfl; (focus ((repeat (first | exact Fills.nil | (apply Fills.cons; exact rfl; (first | assumption | exact rfl); exact rfl) | exact SetMany.nil | apply SetMany.cons | apply SetMany.succ)); done)))))
  try refine WL.wanted rfl rfl rfl ?_
  apply WL.callA ([])
  · exact rfl
  · exact rfl
  · exact fun w => Try.call12 _ w
  · (focus ((repeat (first | exact TakeL.nil | apply TakeL.cons | exact Take.head | apply Take.tail)); done))
  · exact fun w1 S1 hS1 hs1 ho1 => tstatus_spec ⟨.slice (some ⟨c1, 0, none⟩) 2 2, .slice (some ⟨c2, 0, none⟩) 1 1, .slice (some ⟨c3, 0, none⟩) 1 1, .slice (some ⟨c4, 0, none⟩) 1 1, [1, 2], [1], [0], [1]⟩ ⟨.slice (some ⟨d1, 0, none⟩) 2 2, .slice (some ⟨d2, 0, none⟩) 1 1, .slice (some ⟨d3, 0, none⟩) 1 1, .slice (some ⟨d4, 0, none⟩) 1 1, [1, 0], [2], [1], [1]⟩ w1 S1 hS1 ⟨((ho1 (.blk c1 #[i64 1, i64 2] 3) _ (by (focus ((repeat (first | exact Take.head | apply Take.tail)); done)))).blkRow rfl (fun k u h => by simpa using h) (by decide)), ((ho1 (.blk c2 #[i64 1] 3) _ (by (focus ((repeat (first | exact Take.head | apply Take.tail)); done)))).blkRow rfl (fun k u h => by simpa using h) (by decide)), ((ho1 (.blk c3 #[i64 0] 3) _ (by (focus ((repeat (first | exact Take.head | apply Take.tail)); done)))).blkRow rfl (fun k u h => by simpa using h) (by decide)), ((ho1 (.blk c4 #[i64 1] 3) _ (by (focus ((repeat (first | exact Take.head | apply Take.tail)); done)))).blkRow rfl (fun k u h => by simpa using h) (by decide)), (by simp), (by simp), (by simp), (by simp)⟩ ⟨((ho1 (.blk d1 #[i64 1, i64 0] 3) _ (by (focus ((repeat (first | exact Take.head | apply Take.tail)); done)))).blkRow rfl (fun k u h => by simpa using h) (by decide)), ((ho1 (.blk d2 #[i64 2] 3) _ (by (focus ((repeat (first | exact Take.head | apply Take.tail)); done)))).blkRow rfl (fun k u h => by simpa using h) (by decide)), ((ho1 (.blk d3 #[i64 1] 3) _ (by (focus ((repeat (first | exact Take.head | apply Take.tail)); done)))).blkRow rfl (fun k u h => by simpa using h) (by decide)), ((ho1 (.blk d4 #[i64 1] 3) _ (by (focus ((repeat (first | exact Take.head | apply Take.tail)); done)))).blkRow rfl (fun k u h => by simpa using h) (by decide)), (by simp), (by simp), (by simp), (by simp)⟩
  rintro _ _ ⟨rfl, rfl⟩
  first | refine WL.app4 ?_ | refine WL.app3 ?_ | refine WL.app2 ?_ | refine WL.app1 ?_ | refine WL.app0 ?_ | skip
  rw [if_pos (hk1 _ _ _ _ _ _ _ _), if_pos (hk1 _ _ _ _ _ _ _ _), hp1]
  repeat first
    | (apply WL.q; exact rfl; exact rfl; exact rfl; (first | (apply EvW.move; exact rfl) | (apply EvW.assign; exact rfl) | (apply EvW.extract; exact rfl; exact rfl) | (apply EvW.loadAgg; exact rfl; exact AggC.eq; exact SzC.eq; (focus ((repeat (first | exact Take.head | apply Take.tail)); done)); (focus ((repeat (first | exact SubL.nil | apply SubL.cons | apply SubL.succ)); done)))))
    | refine WC.seq ?_ | refine WC.region ?_ | refine WL.nil ?_ | refine WE.next ?_
  try refine WL.wanted rfl rfl rfl ?_
  (apply WL.buildSlice; exact rfl; exact UndC.eq; exact SzC.eq; exact ZvC.eq; exact rfl; exact rfl; exact rfl; ((focus ((repeat (first | exact Flat.nil | (apply Flat.one; (first | exact rfl | assumption)) | (apply Flat.cons; exact rfl; exact rfl))); done))); exact rfl; exact rfl; intro e1)
  skip
  try refine WL.wanted rfl rfl rfl ?_
  (apply WL.buildSlice; exact rfl; exact UndC.eq; exact SzC.eq; exact ZvC.eq; exact rfl; exact rfl; exact rfl; ((focus ((repeat (first | exact Flat.nil | (apply Flat.one; (first | exact rfl | assumption)) | (apply Flat.cons; exact rfl; exact rfl))); done))); exact rfl; exact rfl; intro e2)
  skip
  try refine WL.wanted rfl rfl rfl ?_
  (apply WL.buildSlice; exact rfl; exact UndC.eq; exact SzC.eq; exact ZvC.eq; exact rfl; exact rfl; exact rfl; ((focus ((repeat (first | exact Flat.nil | (apply Flat.one; (first | exact rfl | assumption)) | (apply Flat.cons; exact rfl; exact rfl))); done))); exact rfl; exact rfl; intro e3)
  repeat first
    | (apply WL.q; exact rfl; exact rfl; exact rfl; (first | (apply EvW.build; exact PlC.eq; exact ZvC.eq; exact rfl; exact rfl; (focus ((repeat (first | exact Fills.nil | (apply Fills.cons; exact rfl; (first | assumption | exact rfl); exact rfl) | exact SetMany.nil | apply SetMany.cons | apply SetMany.succ)); done)))))
  try refine WL.wanted rfl rfl rfl ?_
  apply WL.callA ([])
  · exact rfl
  · exact rfl
  · exact fun w => Try.call14 _ w
  · (focus ((repeat (first | exact TakeL.nil | apply TakeL.cons | exact Take.head | apply Take.tail)); done))
  · exact fun w1 S1 hS1 hs1 ho1 => torders_spec ⟨.slice (some ⟨c1, 0, none⟩) 2 2, .slice (some ⟨c2, 0, none⟩) 1 1, .slice (some ⟨c3, 0, none⟩) 1 1, .slice (some ⟨c4, 0, none⟩) 1 1, [1, 2], [1], [0], [1]⟩ ⟨.slice (some ⟨e1, 0, none⟩) 1 1, .slice (some ⟨e2, 0, none⟩) 1 1, .slice (some ⟨e3, 0, none⟩) 1 1, [0], [2], [0]⟩ w1 S1 hS1 ⟨((ho1 (.blk c1 #[i64 1, i64 2] 3) _ (by (focus ((repeat (first | exact Take.head | apply Take.tail)); done)))).blkRow rfl (fun k u h => by simpa using h) (by decide)), ((ho1 (.blk c2 #[i64 1] 3) _ (by (focus ((repeat (first | exact Take.head | apply Take.tail)); done)))).blkRow rfl (fun k u h => by simpa using h) (by decide)), ((ho1 (.blk c3 #[i64 0] 3) _ (by (focus ((repeat (first | exact Take.head | apply Take.tail)); done)))).blkRow rfl (fun k u h => by simpa using h) (by decide)), ((ho1 (.blk c4 #[i64 1] 3) _ (by (focus ((repeat (first | exact Take.head | apply Take.tail)); done)))).blkRow rfl (fun k u h => by simpa using h) (by decide)), (by simp), (by simp), (by simp), (by simp)⟩ ⟨((ho1 (.blk e1 #[i64 0] 3) _ (by (focus ((repeat (first | exact Take.head | apply Take.tail)); done)))).blkRow rfl (fun k u h => by simpa using h) (by decide)), ((ho1 (.blk e2 #[i64 2] 3) _ (by (focus ((repeat (first | exact Take.head | apply Take.tail)); done)))).blkRow rfl (fun k u h => by simpa using h) (by decide)), ((ho1 (.blk e3 #[i64 0] 3) _ (by (focus ((repeat (first | exact Take.head | apply Take.tail)); done)))).blkRow rfl (fun k u h => by simpa using h) (by decide)), (by simp), (by simp), (by simp)⟩
  rintro _ _ ⟨rfl, rfl⟩
  first | refine WL.app4 ?_ | refine WL.app3 ?_ | refine WL.app2 ?_ | refine WL.app1 ?_ | refine WL.app0 ?_ | skip
  rw [if_pos (hk2 _ _ _ _ _ _ _), if_pos (hk2 _ _ _ _ _ _ _), hp2]
  repeat first
    | (apply WL.q; exact rfl; exact rfl; exact rfl; (first | (apply EvW.move; exact rfl) | (apply EvW.assign; exact rfl) | (apply EvW.extract; exact rfl; exact rfl) | (apply EvW.build; exact PlC.eq; exact ZvC.eq; exact rfl; exact rfl; (focus ((repeat (first | exact Fills.nil | (apply Fills.cons; exact rfl; (first | assumption | exact rfl); exact rfl) | exact SetMany.nil | apply SetMany.cons | apply SetMany.succ)); done)))))
    | refine WC.seq ?_ | refine WC.region ?_ | refine WL.nil ?_ | refine WE.next ?_
  try refine WL.wanted rfl rfl rfl ?_
  apply WL.callA ([])
  · exact rfl
  · exact rfl
  · exact fun w => Try.call16 _ w
  · (focus ((repeat (first | exact TakeL.nil | apply TakeL.cons | exact Take.head | apply Take.tail)); done))
  · exact fun w1 S1 hS1 hs1 ho1 => tblock_spec 1 0 7 w1 S1 hS1
  rintro _ _ ⟨rfl, rfl⟩
  first | refine WL.app4 ?_ | refine WL.app3 ?_ | refine WL.app2 ?_ | refine WL.app1 ?_ | refine WL.app0 ?_ | skip
  obtain ⟨bs, hbs, hb1, hb2⟩ : ∃ bs : List UInt8, (bM 1 0 7).said = bs ∧ bs.length = 13 ∧ ((bs.getD ((12 : Int)).toNat 0).toNat : Int) = 7 := ⟨_, rfl, by decide, by decide⟩
  rw [hbs, show (bM 1 0 7).e = 0 from by decide]
  repeat first
    | (apply WL.q; exact rfl; exact rfl; exact rfl; (first | (apply EvW.move; exact rfl) | (apply EvW.assign; exact rfl) | (apply EvW.extract; exact rfl; exact rfl) | (apply EvW.lenS; exact rfl; exact UndC.eq) | (apply EvW.cmpT; exact rfl; exact rfl; exact rfl; omega) | (apply EvW.pickT; exact rfl; exact rfl) | (apply EvW.seqS; exact rfl; exact rfl) | (apply EvW.index; exact rfl; exact rfl; exact UndC.eq; omega; omega)))
    | refine WC.seq ?_ | refine WC.region ?_ | refine WL.nil ?_ | refine WE.next ?_ | refine WC.ret ?_ | refine WL.wanted rfl rfl rfl ?_
  refine WE.bare ?_
  refine WE.ret1 rfl rfl ?_
  exact ⟨rfl, rfl⟩
end Go.Proofs.Ytdnpofigagdabaa
