/- Statuses and orders, and their payloads. -/
import Derived.Test.YtdnpofigagdabaaTeleE
import Derived.Test.YtdnpofigagdabaaTeleF
namespace Go.Proofs.Ytdnpofigagdabaa
open Go.RowKit Go.BK

/-- Four lists, three lists. -/
structure Q4 where
  a : Value
  b : Value
  y : Value
  d : Value
  la : List Int
  lb : List Int
  ly : List Int
  ld : List Int
structure Q3 where
  a : Value
  b : Value
  y : Value
  la : List Int
  lb : List Int
  ly : List Int
structure Q4.Seen (x : Q4) (w : World) (S : BSet) : Prop where
  a : Sees w S (.row 1 x.a x.la.length (x.la.map i64))
  b : Sees w S (.row 1 x.b x.lb.length (x.lb.map i64))
  y : Sees w S (.row 1 x.y x.ly.length (x.ly.map i64))
  d : Sees w S (.row 1 x.d x.ld.length (x.ld.map i64))
  na : x.la.length ≤ 17592186044416
  nb : x.lb.length ≤ 17592186044416
  ny : x.ly.length ≤ 17592186044416
  nd : x.ld.length ≤ 17592186044416
structure Q3.Seen (x : Q3) (w : World) (S : BSet) : Prop where
  a : Sees w S (.row 1 x.a x.la.length (x.la.map i64))
  b : Sees w S (.row 1 x.b x.lb.length (x.lb.map i64))
  y : Sees w S (.row 1 x.y x.ly.length (x.ly.map i64))
  na : x.la.length ≤ 17592186044416
  nb : x.lb.length ≤ 17592186044416
  ny : x.ly.length ≤ 17592186044416
theorem Q4.Seen.down {x : Q4} {w w' : World} {S S' : BSet} (h : x.Seen w S) (k : ∀ B, Sees w S B → Sees w' S' B) : x.Seen w' S' := ⟨k _ h.a, k _ h.b, k _ h.y, k _ h.d, h.na, h.nb, h.ny, h.nd⟩
theorem Q3.Seen.down {x : Q3} {w w' : World} {S S' : BSet} (h : x.Seen w S) (k : ∀ B, Sees w S B → Sees w' S' B) : x.Seen w' S' := ⟨k _ h.a, k _ h.b, k _ h.y, h.na, h.nb, h.ny⟩
def okF (l : List Int) (n m : Int) : Bool := decide ((l.length : Int) = n) && l.all (inTo m)
def sOk (h s : Q4) : Bool := okF s.la h.la.length 1 && (okF s.lb h.lb.length 2 && (okF s.ly h.ly.length 1 && (okF s.ld h.ld.length 1 && true)))
def oOk (h : Q4) (o : Q3) : Bool := okF o.la h.lb.length 2 && (okF o.lb h.ld.length 2 && (okF o.ly h.ly.length 1 && true))
def sPay (s : Q4) : List UInt8 := be 1 1 ++ (s.la.flatMap (be 1) ++ (s.lb.flatMap (be 1) ++ (s.ly.flatMap (be 1) ++ (s.ld.flatMap (be 1) ++ []))))
def oPay (o : Q3) : List UInt8 := be 1 2 ++ (o.la.flatMap (be 1) ++ (o.lb.flatMap (be 1) ++ (o.ly.flatMap (be 1) ++ [])))
def sGood (h : Q4) (l : List UInt8) : Prop := good4 l 1 h.la.length h.lb.length h.ly.length h.ld.length 1 2 1 1
def oGood (h : Q4) (l : List UInt8) : Prop := good3 l 2 h.lb.length h.ld.length h.ly.length 2 2 1
theorem status_spec (h : Q4) (q : Nat) (w : World) (S : BSet) (hS : (sepL []).sat S w) (hh : h.Seen w S) :
    Tri Try.prog 30 #[.agg #[(h).a, (h).b, (h).y, (h).d], ptr q 0] w S fun u A => ∃ f, u = .slice (some ⟨f, 0, none⟩) 4 4 ∧ A = [.blk f #[ptr q 0, i64 (h.la.length : Int), i64 1, ptr q 1, i64 (h.lb.length : Int), i64 2, ptr q 2, i64 (h.ly.length : Int), i64 1, ptr q 3, i64 (h.ld.length : Int), i64 1] 97] := by
  refine Tri.enter (l := [.agg #[(h).a, (h).b, (h).y, (h).d], ptr q 0]) Try.func30 rfl Try.ntmps30 rfl [(0, .agg #[(h).a, (h).b, (h).y, (h).d]), (1, ptr q 0)] (subA rfl) hS ?_
  have ha := hh.a
  have hb := hh.b
  have hy := hh.y
  have hd := hh.d
  repeat first
    | refine WC.seq ?_ | refine WC.region ?_
  try refine WL.wanted rfl rfl rfl ?_
  (apply WL.box; exact rfl; exact rfl; exact rfl; intro q1)
  repeat first
    | (apply WL.q; exact rfl; exact rfl; exact rfl; (first | (apply EvW.assign; exact rfl)))
    | refine WC.seq ?_ | refine WL.nil ?_ | refine WE.next ?_
  repeat refine WC.seq ?_
  refine WC.keep (xs := [.blk q1 #[h.a, h.b, h.y, h.d] 33]) (by (focus ((repeat (first | exact TakeL.nil | apply TakeL.cons | exact Take.head | apply Take.tail)); done))) ?_
  apply WC.par _ (fun c : Ch => [.blk q1 #[h.a, h.b, h.y, h.d] 33, .blk (c 28).1 #[ptr q 0, i64 (h.la.length : Int), i64 1, ptr q 1, i64 (h.lb.length : Int), i64 2, ptr q 2, i64 (h.ly.length : Int), i64 1, ptr q 3, i64 (h.ld.length : Int), i64 1] 97]) [none, some 28] [none, none] [(28, fun x => .slice (some ⟨x.1, 0, none⟩) 4 4)] Try.mixed
  · (focus ((repeat (first | exact Restr.nil | (apply Restr.keep; exact rfl; exact rfl) | (apply Restr.drop; exact rfl))); done))
  · intro c; exact (by (focus ((repeat (first | exact SelT.nil | apply SelT.yes | apply SelT.no)); done)))
  · exact rfl
  · decide +kernel
  · decide +kernel
  · intro c
    (apply Par.quiet _ [true, false]; exact rfl; decide +kernel; exact rfl; intro R; refine ⟨_, (by (focus ((repeat (first | exact SelT.nil | apply SelT.yes | apply SelT.no)); done))), ?_⟩;
         (first | (apply EvW.move; exact rfl)))
    (apply Par.quiet _ [true, false]; exact rfl; decide +kernel; exact rfl; intro R; refine ⟨_, (by (focus ((repeat (first | exact SelT.nil | apply SelT.yes | apply SelT.no)); done))), ?_⟩;
         (first | (apply EvW.nilPtr; exact rfl)))
    (apply Par.quiet _ [true, false]; exact rfl; decide +kernel; exact rfl; intro R; refine ⟨_, (by (focus ((repeat (first | exact SelT.nil | apply SelT.yes | apply SelT.no)); done))), ?_⟩;
         (first | (apply EvW.fieldAddr0; exact rfl; exact FldC.eq)))
    (apply Par.quiet _ [true, false]; exact rfl; decide +kernel; exact rfl; intro R; refine ⟨_, (by (focus ((repeat (first | exact SelT.nil | apply SelT.yes | apply SelT.no)); done))), ?_⟩;
         (first | (apply EvW.fieldAddr0; exact rfl; exact FldC.eq)))
    (apply Par.quiet _ [true, false]; exact rfl; decide +kernel; exact rfl; intro R; refine ⟨_, (by (focus ((repeat (first | exact SelT.nil | apply SelT.yes | apply SelT.no)); done))), ?_⟩;
         (first | (apply EvW.load; exact rfl; exact ScalC.eq; (focus ((repeat (first | exact Take.head | apply Take.tail)); done)); exact rfl)))
    (apply Par.quiet _ [true, false]; exact rfl; decide +kernel; exact rfl; intro R; refine ⟨_, (by (focus ((repeat (first | exact SelT.nil | apply SelT.yes | apply SelT.no)); done))), ?_⟩;
         (first | (apply EvW.lenRow; exact rfl; exact UndC.eq; assumption)))
    (apply Par.quiet _ [true, false]; exact rfl; decide +kernel; exact rfl; intro R; refine ⟨_, (by (focus ((repeat (first | exact SelT.nil | apply SelT.yes | apply SelT.no)); done))), ?_⟩;
         (first | (apply EvW.build; exact PlC.eq; exact ZvC.eq; exact rfl; exact rfl; (focus ((repeat (first | exact Fills.nil | (apply Fills.cons; exact rfl; (first | assumption | exact rfl); exact rfl) | exact SetMany.nil | apply SetMany.cons | apply SetMany.succ)); done)))))
    (apply Par.quiet _ [true, false]; exact rfl; decide +kernel; exact rfl; intro R; refine ⟨_, (by (focus ((repeat (first | exact SelT.nil | apply SelT.yes | apply SelT.no)); done))), ?_⟩;
         (first | (apply EvW.move; exact rfl)))
    (apply Par.quiet _ [true, false]; exact rfl; decide +kernel; exact rfl; intro R; refine ⟨_, (by (focus ((repeat (first | exact SelT.nil | apply SelT.yes | apply SelT.no)); done))), ?_⟩;
         (first | (apply EvW.nilPtr; exact rfl)))
    (apply Par.quiet _ [true, false]; exact rfl; decide +kernel; exact rfl; intro R; refine ⟨_, (by (focus ((repeat (first | exact SelT.nil | apply SelT.yes | apply SelT.no)); done))), ?_⟩;
         (first | (apply EvW.fieldAddr0; exact rfl; exact FldC.eq)))
    (apply Par.quiet _ [true, false]; exact rfl; decide +kernel; exact rfl; intro R; refine ⟨_, (by (focus ((repeat (first | exact SelT.nil | apply SelT.yes | apply SelT.no)); done))), ?_⟩;
         (first | (apply EvW.fieldAddr0; exact rfl; exact FldC.eq)))
    (apply Par.quiet _ [true, false]; exact rfl; decide +kernel; exact rfl; intro R; refine ⟨_, (by (focus ((repeat (first | exact SelT.nil | apply SelT.yes | apply SelT.no)); done))), ?_⟩;
         (first | (apply EvW.load; exact rfl; exact ScalC.eq; (focus ((repeat (first | exact Take.head | apply Take.tail)); done)); exact rfl)))
    (apply Par.quiet _ [true, false]; exact rfl; decide +kernel; exact rfl; intro R; refine ⟨_, (by (focus ((repeat (first | exact SelT.nil | apply SelT.yes | apply SelT.no)); done))), ?_⟩;
         (first | (apply EvW.lenRow; exact rfl; exact UndC.eq; assumption)))
    (apply Par.quiet _ [true, false]; exact rfl; decide +kernel; exact rfl; intro R; refine ⟨_, (by (focus ((repeat (first | exact SelT.nil | apply SelT.yes | apply SelT.no)); done))), ?_⟩;
         (first | (apply EvW.build; exact PlC.eq; exact ZvC.eq; exact rfl; exact rfl; (focus ((repeat (first | exact Fills.nil | (apply Fills.cons; exact rfl; (first | assumption | exact rfl); exact rfl) | exact SetMany.nil | apply SetMany.cons | apply SetMany.succ)); done)))))
    (apply Par.quiet _ [true, false]; exact rfl; decide +kernel; exact rfl; intro R; refine ⟨_, (by (focus ((repeat (first | exact SelT.nil | apply SelT.yes | apply SelT.no)); done))), ?_⟩;
         (first | (apply EvW.move; exact rfl)))
    (apply Par.quiet _ [true, false]; exact rfl; decide +kernel; exact rfl; intro R; refine ⟨_, (by (focus ((repeat (first | exact SelT.nil | apply SelT.yes | apply SelT.no)); done))), ?_⟩;
         (first | (apply EvW.nilPtr; exact rfl)))
    (apply Par.quiet _ [true, false]; exact rfl; decide +kernel; exact rfl; intro R; refine ⟨_, (by (focus ((repeat (first | exact SelT.nil | apply SelT.yes | apply SelT.no)); done))), ?_⟩;
         (first | (apply EvW.fieldAddr0; exact rfl; exact FldC.eq)))
    (apply Par.quiet _ [true, false]; exact rfl; decide +kernel; exact rfl; intro R; refine ⟨_, (by (focus ((repeat (first | exact SelT.nil | apply SelT.yes | apply SelT.no)); done))), ?_⟩;
         (first | (apply EvW.fieldAddr0; exact rfl; exact FldC.eq)))
    (apply Par.quiet _ [true, false]; exact rfl; decide +kernel; exact rfl; intro R; refine ⟨_, (by (focus ((repeat (first | exact SelT.nil | apply SelT.yes | apply SelT.no)); done))), ?_⟩;
         (first | (apply EvW.load; exact rfl; exact ScalC.eq; (focus ((repeat (first | exact Take.head | apply Take.tail)); done)); exact rfl)))
    (apply Par.quiet _ [true, false]; exact rfl; decide +kernel; exact rfl; intro R; refine ⟨_, (by (focus ((repeat (first | exact SelT.nil | apply SelT.yes | apply SelT.no)); done))), ?_⟩;
         (first | (apply EvW.lenRow; exact rfl; exact UndC.eq; assumption)))
    (apply Par.quiet _ [true, false]; exact rfl; decide +kernel; exact rfl; intro R; refine ⟨_, (by (focus ((repeat (first | exact SelT.nil | apply SelT.yes | apply SelT.no)); done))), ?_⟩;
         (first | (apply EvW.build; exact PlC.eq; exact ZvC.eq; exact rfl; exact rfl; (focus ((repeat (first | exact Fills.nil | (apply Fills.cons; exact rfl; (first | assumption | exact rfl); exact rfl) | exact SetMany.nil | apply SetMany.cons | apply SetMany.succ)); done)))))
    (apply Par.quiet _ [true, false]; exact rfl; decide +kernel; exact rfl; intro R; refine ⟨_, (by (focus ((repeat (first | exact SelT.nil | apply SelT.yes | apply SelT.no)); done))), ?_⟩;
         (first | (apply EvW.move; exact rfl)))
    (apply Par.quiet _ [true, false]; exact rfl; decide +kernel; exact rfl; intro R; refine ⟨_, (by (focus ((repeat (first | exact SelT.nil | apply SelT.yes | apply SelT.no)); done))), ?_⟩;
         (first | (apply EvW.nilPtr; exact rfl)))
    (apply Par.quiet _ [true, false]; exact rfl; decide +kernel; exact rfl; intro R; refine ⟨_, (by (focus ((repeat (first | exact SelT.nil | apply SelT.yes | apply SelT.no)); done))), ?_⟩;
         (first | (apply EvW.fieldAddr0; exact rfl; exact FldC.eq)))
    (apply Par.quiet _ [true, false]; exact rfl; decide +kernel; exact rfl; intro R; refine ⟨_, (by (focus ((repeat (first | exact SelT.nil | apply SelT.yes | apply SelT.no)); done))), ?_⟩;
         (first | (apply EvW.fieldAddr0; exact rfl; exact FldC.eq)))
    (apply Par.quiet _ [true, false]; exact rfl; decide +kernel; exact rfl; intro R; refine ⟨_, (by (focus ((repeat (first | exact SelT.nil | apply SelT.yes | apply SelT.no)); done))), ?_⟩;
         (first | (apply EvW.load; exact rfl; exact ScalC.eq; (focus ((repeat (first | exact Take.head | apply Take.tail)); done)); exact rfl)))
    (apply Par.quiet _ [true, false]; exact rfl; decide +kernel; exact rfl; intro R; refine ⟨_, (by (focus ((repeat (first | exact SelT.nil | apply SelT.yes | apply SelT.no)); done))), ?_⟩;
         (first | (apply EvW.lenRow; exact rfl; exact UndC.eq; assumption)))
    (apply Par.quiet _ [true, false]; exact rfl; decide +kernel; exact rfl; intro R; refine ⟨_, (by (focus ((repeat (first | exact SelT.nil | apply SelT.yes | apply SelT.no)); done))), ?_⟩;
         (first | (apply EvW.build; exact PlC.eq; exact ZvC.eq; exact rfl; exact rfl; (focus ((repeat (first | exact Fills.nil | (apply Fills.cons; exact rfl; (first | assumption | exact rfl); exact rfl) | exact SetMany.nil | apply SetMany.cons | apply SetMany.succ)); done)))))
    (apply Par.new _ [false, false] [false, true] [true, false]; exact rfl; exact rfl; decide +kernel; intro R; refine ⟨_, _, _, (by (focus ((repeat (first | exact SelT.nil | apply SelT.yes | apply SelT.no)); done))), (by (focus ((repeat (first | exact SelT.nil | apply SelT.yes | apply SelT.no)); done))), (fun x => (by (focus ((repeat (first | exact SelT.nil | apply SelT.yes | apply SelT.no)); done)))), ?_⟩; (apply NewW.buildSlice; exact UndC.eq; exact SzC.eq; exact ZvC.eq; exact rfl; exact rfl; exact rfl; (focus ((repeat (first | exact Flat.nil | (apply Flat.one; (first | exact rfl | assumption)) | (apply Flat.cons; exact rfl; exact rfl))); done)); exact rfl; exact rfl; exact fun _ => rfl))
    (apply Par.quiet _ [true, true]; exact rfl; decide +kernel; exact rfl; intro R; refine ⟨_, (by (focus ((repeat (first | exact SelT.nil | apply SelT.yes | apply SelT.no)); done))), ?_⟩;
         (first | (apply EvW.assign; exact rfl)))
    exact Par.nil
  · repeat (first | exact AllN.nil | (apply AllN.cons; (intro c x; (repeat (first | exact IndA.nil | (apply IndA.skip; decide +kernel) | apply IndA.same))))) 
  · repeat (first | exact AllN.nil | (apply AllN.cons; (intro c x; (repeat (first | exact IndT.nil | (apply IndT.skip; decide +kernel) | apply IndT.same))))) 
  · exact fun _ => rfl
  intro c
  refine ⟨_, (by (focus ((repeat (first | exact SelT.nil | apply SelT.yes | apply SelT.no)); done))), ?_⟩
  apply WE.writ
  · (focus ((repeat (first | exact Writ.nil | apply Writ.some | apply Writ.none)); done))
  generalize (c 28).1 = b28
  repeat first
    | refine WE.next ?_ | refine WC.ret ?_
  refine WE.keep (xs := [.blk b28 #[ptr q 0, i64 (h.la.length : Int), i64 1, ptr q 1, i64 (h.lb.length : Int), i64 2, ptr q 2, i64 (h.ly.length : Int), i64 1, ptr q 3, i64 (h.ld.length : Int), i64 1] 97]) (by (focus ((repeat (first | exact TakeL.nil | apply TakeL.cons | exact Take.head | apply Take.tail)); done))) ?_
  refine WE.ret1 rfl rfl ?_
  exact ⟨b28, rfl, rfl⟩
theorem orders_spec (h : Q4) (q : Nat) (w : World) (S : BSet) (hS : (sepL []).sat S w) (hh : h.Seen w S) :
    Tri Try.prog 33 #[.agg #[(h).a, (h).b, (h).y, (h).d], ptr q 0] w S fun u A => ∃ f, u = .slice (some ⟨f, 0, none⟩) 3 3 ∧ A = [.blk f #[ptr q 0, i64 (h.lb.length : Int), i64 2, ptr q 1, i64 (h.ld.length : Int), i64 2, ptr q 2, i64 (h.ly.length : Int), i64 1] 97] := by
  refine Tri.enter (l := [.agg #[(h).a, (h).b, (h).y, (h).d], ptr q 0]) Try.func33 rfl Try.ntmps33 rfl [(0, .agg #[(h).a, (h).b, (h).y, (h).d]), (1, ptr q 0)] (subA rfl) hS ?_
  have hb := hh.b
  have hy := hh.y
  have hd := hh.d
  repeat first
    | refine WC.seq ?_ | refine WC.region ?_
  try refine WL.wanted rfl rfl rfl ?_
  (apply WL.box; exact rfl; exact rfl; exact rfl; intro q1)
  repeat first
    | (apply WL.q; exact rfl; exact rfl; exact rfl; (first | (apply EvW.assign; exact rfl)))
    | refine WC.seq ?_ | refine WL.nil ?_ | refine WE.next ?_
  repeat refine WC.seq ?_
  refine WC.keep (xs := [.blk q1 #[h.a, h.b, h.y, h.d] 33]) (by (focus ((repeat (first | exact TakeL.nil | apply TakeL.cons | exact Take.head | apply Take.tail)); done))) ?_
  apply WC.par _ (fun c : Ch => [.blk q1 #[h.a, h.b, h.y, h.d] 33, .blk (c 21).1 #[ptr q 0, i64 (h.lb.length : Int), i64 2, ptr q 1, i64 (h.ld.length : Int), i64 2, ptr q 2, i64 (h.ly.length : Int), i64 1] 97]) [none, some 21] [none, none] [(21, fun x => .slice (some ⟨x.1, 0, none⟩) 3 3)] Try.mixed
  · (focus ((repeat (first | exact Restr.nil | (apply Restr.keep; exact rfl; exact rfl) | (apply Restr.drop; exact rfl))); done))
  · intro c; exact (by (focus ((repeat (first | exact SelT.nil | apply SelT.yes | apply SelT.no)); done)))
  · exact rfl
  · decide +kernel
  · decide +kernel
  · intro c
    (apply Par.quiet _ [true, false]; exact rfl; decide +kernel; exact rfl; intro R; refine ⟨_, (by (focus ((repeat (first | exact SelT.nil | apply SelT.yes | apply SelT.no)); done))), ?_⟩;
         (first | (apply EvW.move; exact rfl)))
    (apply Par.quiet _ [true, false]; exact rfl; decide +kernel; exact rfl; intro R; refine ⟨_, (by (focus ((repeat (first | exact SelT.nil | apply SelT.yes | apply SelT.no)); done))), ?_⟩;
         (first | (apply EvW.nilPtr; exact rfl)))
    (apply Par.quiet _ [true, false]; exact rfl; decide +kernel; exact rfl; intro R; refine ⟨_, (by (focus ((repeat (first | exact SelT.nil | apply SelT.yes | apply SelT.no)); done))), ?_⟩;
         (first | (apply EvW.fieldAddr0; exact rfl; exact FldC.eq)))
    (apply Par.quiet _ [true, false]; exact rfl; decide +kernel; exact rfl; intro R; refine ⟨_, (by (focus ((repeat (first | exact SelT.nil | apply SelT.yes | apply SelT.no)); done))), ?_⟩;
         (first | (apply EvW.fieldAddr0; exact rfl; exact FldC.eq)))
    (apply Par.quiet _ [true, false]; exact rfl; decide +kernel; exact rfl; intro R; refine ⟨_, (by (focus ((repeat (first | exact SelT.nil | apply SelT.yes | apply SelT.no)); done))), ?_⟩;
         (first | (apply EvW.load; exact rfl; exact ScalC.eq; (focus ((repeat (first | exact Take.head | apply Take.tail)); done)); exact rfl)))
    (apply Par.quiet _ [true, false]; exact rfl; decide +kernel; exact rfl; intro R; refine ⟨_, (by (focus ((repeat (first | exact SelT.nil | apply SelT.yes | apply SelT.no)); done))), ?_⟩;
         (first | (apply EvW.lenRow; exact rfl; exact UndC.eq; assumption)))
    (apply Par.quiet _ [true, false]; exact rfl; decide +kernel; exact rfl; intro R; refine ⟨_, (by (focus ((repeat (first | exact SelT.nil | apply SelT.yes | apply SelT.no)); done))), ?_⟩;
         (first | (apply EvW.build; exact PlC.eq; exact ZvC.eq; exact rfl; exact rfl; (focus ((repeat (first | exact Fills.nil | (apply Fills.cons; exact rfl; (first | assumption | exact rfl); exact rfl) | exact SetMany.nil | apply SetMany.cons | apply SetMany.succ)); done)))))
    (apply Par.quiet _ [true, false]; exact rfl; decide +kernel; exact rfl; intro R; refine ⟨_, (by (focus ((repeat (first | exact SelT.nil | apply SelT.yes | apply SelT.no)); done))), ?_⟩;
         (first | (apply EvW.move; exact rfl)))
    (apply Par.quiet _ [true, false]; exact rfl; decide +kernel; exact rfl; intro R; refine ⟨_, (by (focus ((repeat (first | exact SelT.nil | apply SelT.yes | apply SelT.no)); done))), ?_⟩;
         (first | (apply EvW.nilPtr; exact rfl)))
    (apply Par.quiet _ [true, false]; exact rfl; decide +kernel; exact rfl; intro R; refine ⟨_, (by (focus ((repeat (first | exact SelT.nil | apply SelT.yes | apply SelT.no)); done))), ?_⟩;
         (first | (apply EvW.fieldAddr0; exact rfl; exact FldC.eq)))
    (apply Par.quiet _ [true, false]; exact rfl; decide +kernel; exact rfl; intro R; refine ⟨_, (by (focus ((repeat (first | exact SelT.nil | apply SelT.yes | apply SelT.no)); done))), ?_⟩;
         (first | (apply EvW.fieldAddr0; exact rfl; exact FldC.eq)))
    (apply Par.quiet _ [true, false]; exact rfl; decide +kernel; exact rfl; intro R; refine ⟨_, (by (focus ((repeat (first | exact SelT.nil | apply SelT.yes | apply SelT.no)); done))), ?_⟩;
         (first | (apply EvW.load; exact rfl; exact ScalC.eq; (focus ((repeat (first | exact Take.head | apply Take.tail)); done)); exact rfl)))
    (apply Par.quiet _ [true, false]; exact rfl; decide +kernel; exact rfl; intro R; refine ⟨_, (by (focus ((repeat (first | exact SelT.nil | apply SelT.yes | apply SelT.no)); done))), ?_⟩;
         (first | (apply EvW.lenRow; exact rfl; exact UndC.eq; assumption)))
    (apply Par.quiet _ [true, false]; exact rfl; decide +kernel; exact rfl; intro R; refine ⟨_, (by (focus ((repeat (first | exact SelT.nil | apply SelT.yes | apply SelT.no)); done))), ?_⟩;
         (first | (apply EvW.build; exact PlC.eq; exact ZvC.eq; exact rfl; exact rfl; (focus ((repeat (first | exact Fills.nil | (apply Fills.cons; exact rfl; (first | assumption | exact rfl); exact rfl) | exact SetMany.nil | apply SetMany.cons | apply SetMany.succ)); done)))))
    (apply Par.quiet _ [true, false]; exact rfl; decide +kernel; exact rfl; intro R; refine ⟨_, (by (focus ((repeat (first | exact SelT.nil | apply SelT.yes | apply SelT.no)); done))), ?_⟩;
         (first | (apply EvW.move; exact rfl)))
    (apply Par.quiet _ [true, false]; exact rfl; decide +kernel; exact rfl; intro R; refine ⟨_, (by (focus ((repeat (first | exact SelT.nil | apply SelT.yes | apply SelT.no)); done))), ?_⟩;
         (first | (apply EvW.nilPtr; exact rfl)))
    (apply Par.quiet _ [true, false]; exact rfl; decide +kernel; exact rfl; intro R; refine ⟨_, (by (focus ((repeat (first | exact SelT.nil | apply SelT.yes | apply SelT.no)); done))), ?_⟩;
         (first | (apply EvW.fieldAddr0; exact rfl; exact FldC.eq)))
    (apply Par.quiet _ [true, false]; exact rfl; decide +kernel; exact rfl; intro R; refine ⟨_, (by (focus ((repeat (first | exact SelT.nil | apply SelT.yes | apply SelT.no)); done))), ?_⟩;
         (first | (apply EvW.fieldAddr0; exact rfl; exact FldC.eq)))
    (apply Par.quiet _ [true, false]; exact rfl; decide +kernel; exact rfl; intro R; refine ⟨_, (by (focus ((repeat (first | exact SelT.nil | apply SelT.yes | apply SelT.no)); done))), ?_⟩;
         (first | (apply EvW.load; exact rfl; exact ScalC.eq; (focus ((repeat (first | exact Take.head | apply Take.tail)); done)); exact rfl)))
    (apply Par.quiet _ [true, false]; exact rfl; decide +kernel; exact rfl; intro R; refine ⟨_, (by (focus ((repeat (first | exact SelT.nil | apply SelT.yes | apply SelT.no)); done))), ?_⟩;
         (first | (apply EvW.lenRow; exact rfl; exact UndC.eq; assumption)))
    (apply Par.quiet _ [true, false]; exact rfl; decide +kernel; exact rfl; intro R; refine ⟨_, (by (focus ((repeat (first | exact SelT.nil | apply SelT.yes | apply SelT.no)); done))), ?_⟩;
         (first | (apply EvW.build; exact PlC.eq; exact ZvC.eq; exact rfl; exact rfl; (focus ((repeat (first | exact Fills.nil | (apply Fills.cons; exact rfl; (first | assumption | exact rfl); exact rfl) | exact SetMany.nil | apply SetMany.cons | apply SetMany.succ)); done)))))
    (apply Par.new _ [false, false] [false, true] [true, false]; exact rfl; exact rfl; decide +kernel; intro R; refine ⟨_, _, _, (by (focus ((repeat (first | exact SelT.nil | apply SelT.yes | apply SelT.no)); done))), (by (focus ((repeat (first | exact SelT.nil | apply SelT.yes | apply SelT.no)); done))), (fun x => (by (focus ((repeat (first | exact SelT.nil | apply SelT.yes | apply SelT.no)); done)))), ?_⟩; (apply NewW.buildSlice; exact UndC.eq; exact SzC.eq; exact ZvC.eq; exact rfl; exact rfl; exact rfl; (focus ((repeat (first | exact Flat.nil | (apply Flat.one; (first | exact rfl | assumption)) | (apply Flat.cons; exact rfl; exact rfl))); done)); exact rfl; exact rfl; exact fun _ => rfl))
    (apply Par.quiet _ [true, true]; exact rfl; decide +kernel; exact rfl; intro R; refine ⟨_, (by (focus ((repeat (first | exact SelT.nil | apply SelT.yes | apply SelT.no)); done))), ?_⟩;
         (first | (apply EvW.assign; exact rfl)))
    exact Par.nil
  · repeat (first | exact AllN.nil | (apply AllN.cons; (intro c x; (repeat (first | exact IndA.nil | (apply IndA.skip; decide +kernel) | apply IndA.same))))) 
  · repeat (first | exact AllN.nil | (apply AllN.cons; (intro c x; (repeat (first | exact IndT.nil | (apply IndT.skip; decide +kernel) | apply IndT.same))))) 
  · exact fun _ => rfl
  intro c
  refine ⟨_, (by (focus ((repeat (first | exact SelT.nil | apply SelT.yes | apply SelT.no)); done))), ?_⟩
  apply WE.writ
  · (focus ((repeat (first | exact Writ.nil | apply Writ.some | apply Writ.none)); done))
  generalize (c 21).1 = b21
  repeat first
    | refine WE.next ?_ | refine WC.ret ?_
  refine WE.keep (xs := [.blk b21 #[ptr q 0, i64 (h.lb.length : Int), i64 2, ptr q 1, i64 (h.ld.length : Int), i64 2, ptr q 2, i64 (h.ly.length : Int), i64 1] 97]) (by (focus ((repeat (first | exact TakeL.nil | apply TakeL.cons | exact Take.head | apply Take.tail)); done))) ?_
  refine WE.ret1 rfl rfl ?_
  exact ⟨b21, rfl, rfl⟩
theorem tstatus_spec (h s : Q4) (w : World) (S : BSet) (hS : (sepL []).sat S w) (hh : h.Seen w S) (hs : s.Seen w S) :
    Tri Try.prog 12 #[.agg #[(h).a, (h).b, (h).y, (h).d], .agg #[(s).a, (s).b, (s).y, (s).d]] w S fun u A => u = .tuple #[str (if sOk h s = true then sPay s else []), i64 (if sOk h s = true then 0 else 32)] ∧ A = [] := by
  refine Tri.enter (l := [.agg #[(h).a, (h).b, (h).y, (h).d], .agg #[(s).a, (s).b, (s).y, (s).d]]) Try.func12 rfl Try.ntmps12 rfl [(0, .agg #[(h).a, (h).b, (h).y, (h).d]), (1, .agg #[(s).a, (s).b, (s).y, (s).d])] (subA rfl) hS ?_
  repeat first
    | refine WC.seq ?_ | refine WC.region ?_
  try refine WL.wanted rfl rfl rfl ?_
  (apply WL.box; exact rfl; exact rfl; exact rfl; intro q1)
  skip
  try refine WL.wanted rfl rfl rfl ?_
  (apply WL.box; exact rfl; exact rfl; exact rfl; intro q2)
  repeat first
    | (apply WL.q; exact rfl; exact rfl; exact rfl; (first | (apply EvW.assign; exact rfl) | (apply EvW.loadAgg; exact rfl; exact AggC.eq; exact SzC.eq; (focus ((repeat (first | exact Take.head | apply Take.tail)); done)); (focus ((repeat (first | exact SubL.nil | apply SubL.cons | apply SubL.succ)); done)))))
    | refine WC.seq ?_ | refine WC.region ?_ | refine WL.nil ?_ | refine WE.next ?_
  try refine WL.wanted rfl rfl rfl ?_
  apply WL.callA ([])
  · exact rfl
  · exact rfl
  · exact fun w => Try.call30 _ w
  · (focus ((repeat (first | exact TakeL.nil | apply TakeL.cons | exact Take.head | apply Take.tail)); done))
  · exact fun w1 S1 hS1 hs1 ho1 => status_spec h q2 w1 S1 hS1 (hh.down hs1)
  rintro _ _ ⟨f, rfl, rfl⟩
  first | refine WL.app4 ?_ | refine WL.app3 ?_ | refine WL.app2 ?_ | refine WL.app1 ?_ | refine WL.app0 ?_ | skip
  skip
  try refine WL.wanted rfl rfl rfl ?_
  apply WL.callA ([])
  · exact rfl
  · exact rfl
  · exact fun w => Try.call29 _ w
  · (focus ((repeat (first | exact TakeL.nil | apply TakeL.cons | exact Take.head | apply Take.tail)); done))
  · exact fun w1 S1 hS1 hs1 ho1 => write_spec 1 _ [⟨q2, 0, s.a, s.la, h.la.length, 1⟩, ⟨q2, 1, s.b, s.lb, h.lb.length, 2⟩, ⟨q2, 2, s.y, s.ly, h.ly.length, 1⟩, ⟨q2, 3, s.d, s.ld, h.ld.length, 1⟩] w1 S1 hS1 (show Sees w1 S1 (.row 3 (.slice (some ⟨f, 0, none⟩) 4 4) 4 [ptr q2 0, i64 (h.la.length : Int), i64 1, ptr q2 1, i64 (h.lb.length : Int), i64 2, ptr q2 2, i64 (h.ly.length : Int), i64 1, ptr q2 3, i64 (h.ld.length : Int), i64 1]) from (ho1 (.blk f #[ptr q2 0, i64 (h.la.length : Int), i64 1, ptr q2 1, i64 (h.lb.length : Int), i64 2, ptr q2 2, i64 (h.ly.length : Int), i64 1, ptr q2 3, i64 (h.ld.length : Int), i64 1] 97) _ (by (focus ((repeat (first | exact Take.head | apply Take.tail)); done)))).blkRow rfl (fun k u h => by simpa using h) (by decide)) (by have hq := ho1 (.blk q2 #[s.a, s.b, s.y, s.d] 44) _ (by (focus ((repeat (first | exact Take.head | apply Take.tail)); done))); have hs' := hs.down hs1; intro f hf; simp only [List.mem_cons, List.not_mem_nil, or_false] at hf; rcases hf with rfl | rfl | rfl | rfl; exact ⟨⟨_, _, hq, rfl⟩, hs'.a, hs'.na⟩; exact ⟨⟨_, _, hq, rfl⟩, hs'.b, hs'.nb⟩; exact ⟨⟨_, _, hq, rfl⟩, hs'.y, hs'.ny⟩; exact ⟨⟨_, _, hq, rfl⟩, hs'.d, hs'.nd⟩) (by simp) (by decide) (by simp)
  rintro _ _ ⟨rfl, rfl⟩
  first | refine WL.app4 ?_ | refine WL.app3 ?_ | refine WL.app2 ?_ | refine WL.app1 ?_ | refine WL.app0 ?_ | skip
  repeat first
    | (apply WL.q; exact rfl; exact rfl; exact rfl; (first | (apply EvW.assign; exact rfl) | (apply EvW.extract; exact rfl; exact rfl)))
    | refine WL.nil ?_ | refine WE.next ?_ | refine WC.ret ?_
  refine WE.bare ?_
  refine WE.retN (l := [4, 5]) rfl rfl rfl ?_
  exact ⟨rfl, rfl⟩
theorem torders_spec (h : Q4) (s : Q3) (w : World) (S : BSet) (hS : (sepL []).sat S w) (hh : h.Seen w S) (hs : s.Seen w S) :
    Tri Try.prog 14 #[.agg #[(h).a, (h).b, (h).y, (h).d], .agg #[(s).a, (s).b, (s).y]] w S fun u A => u = .tuple #[str (if oOk h s = true then oPay s else []), i64 (if oOk h s = true then 0 else 32)] ∧ A = [] := by
  refine Tri.enter (l := [.agg #[(h).a, (h).b, (h).y, (h).d], .agg #[(s).a, (s).b, (s).y]]) Try.func14 rfl Try.ntmps14 rfl [(0, .agg #[(h).a, (h).b, (h).y, (h).d]), (1, .agg #[(s).a, (s).b, (s).y])] (subA rfl) hS ?_
  repeat first
    | refine WC.seq ?_ | refine WC.region ?_
  try refine WL.wanted rfl rfl rfl ?_
  (apply WL.box; exact rfl; exact rfl; exact rfl; intro q1)
  skip
  try refine WL.wanted rfl rfl rfl ?_
  (apply WL.box; exact rfl; exact rfl; exact rfl; intro q2)
  repeat first
    | (apply WL.q; exact rfl; exact rfl; exact rfl; (first | (apply EvW.assign; exact rfl) | (apply EvW.loadAgg; exact rfl; exact AggC.eq; exact SzC.eq; (focus ((repeat (first | exact Take.head | apply Take.tail)); done)); (focus ((repeat (first | exact SubL.nil | apply SubL.cons | apply SubL.succ)); done)))))
    | refine WC.seq ?_ | refine WC.region ?_ | refine WL.nil ?_ | refine WE.next ?_
  try refine WL.wanted rfl rfl rfl ?_
  apply WL.callA ([])
  · exact rfl
  · exact rfl
  · exact fun w => Try.call33 _ w
  · (focus ((repeat (first | exact TakeL.nil | apply TakeL.cons | exact Take.head | apply Take.tail)); done))
  · exact fun w1 S1 hS1 hs1 ho1 => orders_spec h q2 w1 S1 hS1 (hh.down hs1)
  rintro _ _ ⟨f, rfl, rfl⟩
  first | refine WL.app4 ?_ | refine WL.app3 ?_ | refine WL.app2 ?_ | refine WL.app1 ?_ | refine WL.app0 ?_ | skip
  skip
  try refine WL.wanted rfl rfl rfl ?_
  apply WL.callA ([])
  · exact rfl
  · exact rfl
  · exact fun w => Try.call29 _ w
  · (focus ((repeat (first | exact TakeL.nil | apply TakeL.cons | exact Take.head | apply Take.tail)); done))
  · exact fun w1 S1 hS1 hs1 ho1 => write_spec 2 _ [⟨q2, 0, s.a, s.la, h.lb.length, 2⟩, ⟨q2, 1, s.b, s.lb, h.ld.length, 2⟩, ⟨q2, 2, s.y, s.ly, h.ly.length, 1⟩] w1 S1 hS1 (show Sees w1 S1 (.row 3 (.slice (some ⟨f, 0, none⟩) 3 3) 3 [ptr q2 0, i64 (h.lb.length : Int), i64 2, ptr q2 1, i64 (h.ld.length : Int), i64 2, ptr q2 2, i64 (h.ly.length : Int), i64 1]) from (ho1 (.blk f #[ptr q2 0, i64 (h.lb.length : Int), i64 2, ptr q2 1, i64 (h.ld.length : Int), i64 2, ptr q2 2, i64 (h.ly.length : Int), i64 1] 97) _ (by (focus ((repeat (first | exact Take.head | apply Take.tail)); done)))).blkRow rfl (fun k u h => by simpa using h) (by decide)) (by have hq := ho1 (.blk q2 #[s.a, s.b, s.y] 46) _ (by (focus ((repeat (first | exact Take.head | apply Take.tail)); done))); have hs' := hs.down hs1; intro f hf; simp only [List.mem_cons, List.not_mem_nil, or_false] at hf; rcases hf with rfl | rfl | rfl; exact ⟨⟨_, _, hq, rfl⟩, hs'.a, hs'.na⟩; exact ⟨⟨_, _, hq, rfl⟩, hs'.b, hs'.nb⟩; exact ⟨⟨_, _, hq, rfl⟩, hs'.y, hs'.ny⟩) (by simp) (by decide) (by simp)
  rintro _ _ ⟨rfl, rfl⟩
  first | refine WL.app4 ?_ | refine WL.app3 ?_ | refine WL.app2 ?_ | refine WL.app1 ?_ | refine WL.app0 ?_ | skip
  repeat first
    | (apply WL.q; exact rfl; exact rfl; exact rfl; (first | (apply EvW.assign; exact rfl) | (apply EvW.extract; exact rfl; exact rfl)))
    | refine WL.nil ?_ | refine WE.next ?_ | refine WC.ret ?_
  refine WE.bare ?_
  refine WE.retN (l := [4, 5]) rfl rfl rfl ?_
  exact ⟨rfl, rfl⟩
end Go.Proofs.Ytdnpofigagdabaa
