/- Reading a payload of 3 fields. -/
import Derived.Test.YtdnpofigagdabaaTeleD
import Derived.Test.YtdnpofigagdabaaLibS
import Derived.Test.YtdnpofigagdabaaPackH
import Derived.Test.YtdnpofigagdabaaTeleE
namespace Go.Proofs.Ytdnpofigagdabaa
open Go.RowKit Go.BK
def good3 (l : List UInt8) (kind : Int) (n0 n1 n2 : Nat) (m0 m1 m2 : Int) : Prop := l.length = 1 + n0 + n1 + n2 ∧ ((l.getD 0 0).toNat : Int) = kind ∧ (tpart l (1) n0).all (inTo m0) = true ∧ (tpart l (1 + n0) n1).all (inTo m1) = true ∧ (tpart l (1 + n0 + n1) n2).all (inTo m2) = true
theorem read3_spec (l : List UInt8) (kind : Int) (fv : Value) (q : Nat) (U : TypeId) (n0 n1 n2 : Nat) (m0 m1 m2 : Int) (w : World) (S : BSet) (hS : (sepL [.blk q #[.slice none 0 0, .slice none 0 0, .slice none 0 0] U]).sat S w) (hl : l.length ≤ 140737488355328) (hk : 1 ≤ kind) (hf : Sees w S (.row 3 fv 3 (([⟨q, 0, .slice none 0 0, [], n0, m0⟩, ⟨q, 1, .slice none 0 0, [], n1, m1⟩, ⟨q, 2, .slice none 0 0, [], n2, m2⟩] : List Fl).flatMap flC))) (hb0 : n0 ≤ 17592186044416) (hb1 : n1 ≤ 17592186044416) (hb2 : n2 ≤ 17592186044416) :
    Tri Try.prog 41 #[str l, i64 kind, fv] w S fun u A => (u = i64 3 ∧ A = [] ∧ ¬ good3 l kind n0 n1 n2 m0 m1 m2) ∨ (u = i64 0 ∧ good3 l kind n0 n1 n2 m0 m1 m2 ∧ ∃ a b y : Value, A = [.blk q #[a, b, y] U, .own 3 1 (a) (tpart l (1) n0).length ((tpart l (1) n0).map i64), .own 3 1 (b) (tpart l (1 + n0) n1).length ((tpart l (1 + n0) n1).map i64), .own 3 1 (y) (tpart l (1 + n0 + n1) n2).length ((tpart l (1 + n0 + n1) n2).map i64)]) := by
  refine Tri.enter (l := [str l, i64 kind, fv]) Try.func41 rfl Try.ntmps41 rfl [(0, str l), (1, i64 kind), (2, fv)] (subA rfl) hS ?_
  obtain ⟨fs, hfs⟩ : ∃ fs : List Fl, fs = [⟨q, 0, .slice none 0 0, [], n0, m0⟩, ⟨q, 1, .slice none 0 0, [], n1, m1⟩, ⟨q, 2, .slice none 0 0, [], n2, m2⟩] := ⟨_, rfl⟩
  rw [← hfs] at hf
  have hfl : fs.length = 3 := by rw [hfs]; rfl
  repeat first
    | (apply WL.q; exact rfl; exact rfl; exact rfl; (first | (apply EvW.move; exact rfl) | (apply EvW.assign; exact rfl)))
    | refine WC.seq ?_ | refine WC.region ?_ | refine WL.nil ?_ | refine WE.next ?_
  try refine WL.wanted rfl rfl rfl ?_
  apply WL.callT
  · exact rfl
  · exact rfl
  · exact fun w1 S1 hS1 hs1 ho1 => read_spec l w1 S1 hS1
  · exact fun w => Try.call43 _ w
  · (focus ((repeat (first | exact TakeL.nil | apply TakeL.cons | exact Take.head | apply Take.tail)); done))
  rintro _ _ ⟨r, rfl, rfl⟩
  first | refine WL.app4 ?_ | refine WL.app3 ?_ | refine WL.app2 ?_ | refine WL.app1 ?_ | refine WL.app0 ?_ | skip
  repeat first
    | (apply WL.q; exact rfl; exact rfl; exact rfl; (first | (apply EvW.move; exact rfl) | (apply EvW.assign; exact rfl)))
    | refine WC.seq ?_ | refine WC.region ?_ | refine WL.nil ?_ | refine WE.next ?_
  rcases Nat.eq_zero_or_pos l.length with h0 | h0
  · obtain rfl : l = [] := List.eq_nil_of_length_eq_zero h0
    try refine WL.wanted rfl rfl rfl ?_
    apply WL.callA ([.blk r #[i64 (PR.mk 0 []).e, str (PR.mk 0 []).s] 108])
    · exact rfl
    · exact rfl
    · exact fun w => Try.call44 _ w
    · (focus ((repeat (first | exact TakeL.nil | apply TakeL.cons | exact Take.head | apply Take.tail)); done))
    · exact fun w1 S1 hS1 hs1 ho1 => rbyte_spec r (PR.mk 0 []) w1 S1 hS1 (by simp)
    rintro _ _ ⟨rfl, rfl⟩
    first | refine WL.app4 ?_ | refine WL.app3 ?_ | refine WL.app2 ?_ | refine WL.app1 ?_ | refine WL.app0 ?_ | skip
    rw [num1_nil]
    dsimp only
    have hne : ¬ (0 : Int) = kind := by omega
    repeat first
      | (apply WL.q; exact rfl; exact rfl; exact rfl; (first | (apply EvW.move; exact rfl) | (apply EvW.assign; exact rfl) | (apply EvW.cmpT; exact rfl; exact rfl; exact rfl; omega)))
      | refine WC.seq ?_ | refine WC.region ?_ | refine WL.nil ?_ | refine WE.next ?_ | refine WC.condT rfl ?_ | refine WC.ret ?_ | refine WE.passRet ?_
    refine WE.bare ?_
    refine WE.ret1 rfl rfl ?_
    exact .inl ⟨rfl, rfl, fun h => by have := h.1; simp at this; omega⟩
  try refine WL.wanted rfl rfl rfl ?_
  apply WL.callA ([.blk r #[i64 (PR.mk 0 l).e, str (PR.mk 0 l).s] 108])
  · exact rfl
  · exact rfl
  · exact fun w => Try.call44 _ w
  · (focus ((repeat (first | exact TakeL.nil | apply TakeL.cons | exact Take.head | apply Take.tail)); done))
  · exact fun w1 S1 hS1 hs1 ho1 => rbyte_spec r (PR.mk 0 l) w1 S1 hS1 (by simp; omega)
  rintro _ _ ⟨rfl, rfl⟩
  first | refine WL.app4 ?_ | refine WL.app3 ?_ | refine WL.app2 ?_ | refine WL.app1 ?_ | refine WL.app0 ?_ | skip
  rw [show (PR.mk 0 l).num 1 = (((l.getD 0 0).toNat : Int), PR.mk 0 (l.drop 1)) from num1_drop l 0 h0]
  dsimp only
  by_cases hkd : ((l.getD 0 0).toNat : Int) = kind
  rotate_left
  · repeat first
      | (apply WL.q; exact rfl; exact rfl; exact rfl; (first | (apply EvW.move; exact rfl) | (apply EvW.assign; exact rfl) | (apply EvW.cmpT; exact rfl; exact rfl; exact rfl; omega)))
      | refine WC.seq ?_ | refine WC.region ?_ | refine WL.nil ?_ | refine WE.next ?_ | refine WC.condT rfl ?_ | refine WC.ret ?_ | refine WE.passRet ?_
    refine WE.bare ?_
    refine WE.ret1 rfl rfl ?_
    exact .inl ⟨rfl, rfl, fun h => hkd h.2.1⟩
  repeat first
    | (apply WL.q; exact rfl; exact rfl; exact rfl; (first | (apply EvW.move; exact rfl) | (apply EvW.cmpF; exact rfl; exact rfl; exact rfl; omega) | (apply EvW.lenRow; exact rfl; exact UndC.eq; assumption)))
    | refine WC.seq ?_ | refine WC.region ?_ | refine WL.nil ?_ | refine WE.next ?_ | refine WC.block ?_ | refine WC.skip ?_ | refine WC.condF rfl ?_
  refine WC.ownNil 3 1 ?_
  refine WC.ownNil 3 1 ?_
  refine WC.ownNil 3 1 ?_
  refine WC.loopK (σ := Nat × Value × Value × Value) [2, 7, 16, 17] (fun s => [(18, i64 s.1)]) (fun s => [.blk r #[i64 (PR.mk 0 (l.drop (1 + upto s.1 0 n0 + upto s.1 1 n1 + upto s.1 2 n2))).e, str (PR.mk 0 (l.drop (1 + upto s.1 0 n0 + upto s.1 1 n1 + upto s.1 2 n2))).s] 108, .blk q #[s.2.1, s.2.2.1, s.2.2.2] U, .own 3 1 (s.2.1) (tpart l (1) (upto s.1 0 n0)).length ((tpart l (1) (upto s.1 0 n0)).map i64), .own 3 1 (s.2.2.1) (tpart l (1 + n0) (upto s.1 1 n1)).length ((tpart l (1 + n0) (upto s.1 1 n1)).map i64), .own 3 1 (s.2.2.2) (tpart l (1 + n0 + n1) (upto s.1 2 n2)).length ((tpart l (1 + n0 + n1) (upto s.1 2 n2)).map i64)]) (fun s => s.1 ≤ 3 ∧ 1 + upto s.1 0 n0 + upto s.1 1 n1 + upto s.1 2 n2 ≤ l.length) (fun s => 3 - s.1) (0, .slice none 0 0, .slice none 0 0, .slice none 0 0) (by (focus ((repeat (first | exact Pick.nil | (apply Pick.cons; exact rfl))); done))) (by (focus ((repeat (first | exact trivial | (refine ⟨rfl, ?_⟩))); done))) (fun _ h => h.keep (by (focus ((repeat (first | exact TakeL.nil | apply TakeL.cons | exact Take.head | apply Take.tail)); done)))) ⟨by simp only []; omega, by simp only [upto]; simp; omega⟩ (fun s hs => ?_)
  obtain ⟨i, a, b, y⟩ := s
  simp only [List.cons_append, List.nil_append] at hs ⊢
  obtain ⟨hs, hol⟩ := hs
  by_cases hlt : (i : Int) < 3
  · have hi : i = 0 ∨ i = 1 ∨ i = 2 := by omega
    rcases hi with rfl | rfl | rfl
    · rw [show upto 0 0 n0 = 0 from rfl, show upto 0 1 n1 = 0 from rfl, show upto 0 2 n2 = 0 from rfl] at hol
      rw [show upto 0 0 n0 = 0 from rfl, show upto 0 1 n1 = 0 from rfl, show upto 0 2 n2 = 0 from rfl]
      rw [show 1 + 0 + 0 + 0 = 1 from by omega]
      have hol : 1 ≤ l.length := by omega
      repeat first
        | (apply WL.q; exact rfl; exact rfl; exact rfl; (first | (apply EvW.cmpT; exact rfl; exact rfl; exact rfl; omega) | (apply EvW.idxRow; exact rfl; exact rfl; exact UndC.eq; exact SzC.eq; assumption; omega; omega)))
        | refine WC.seq ?_ | refine WC.region ?_ | refine WL.nil ?_ | refine WE.next ?_ | refine WC.block ?_ | refine WC.skip ?_ | refine WC.condT rfl ?_
      (apply WL.q; exact rfl; exact rfl; exact rfl; (apply EvW.ldElem (xs := fs) (z := (default : Fl)) (f := flC); exact rfl; exact AggC.eq; exact SzC.eq; exact rfl; exact fun _ => rfl; assumption; omega))
      try refine WL.wanted rfl rfl rfl ?_
      (apply WL.alloc; exact rfl; exact ZvC.eq; exact rfl; intro x)
      rw [show fs.getD (((0 : Nat) : Int)).toNat default = ⟨q, 0, .slice none 0 0, [], n0, m0⟩ from by rw [hfs]; rfl]
      repeat first
        | (apply WL.q; exact rfl; exact rfl; exact rfl; (first | (apply EvW.move; exact rfl) | (apply EvW.fieldAddr0; exact rfl; exact FldC.eq) | (apply EvW.load; exact rfl; exact ScalC.eq; (focus ((repeat (first | exact Take.head | apply Take.tail)); done)); exact rfl)))
        | refine WC.seq ?_ | refine WC.region ?_ | refine WL.nil ?_ | refine WE.next ?_ | refine WC.block ?_ | (apply WL.store; exact rfl; exact rfl; (first | assumption | exact rfl); exact SzC.eq; (first | assumption | exact rfl); (focus ((repeat (first | apply UpdC.head | apply UpdC.tail | exact SetMany.nil | apply SetMany.cons | apply SetMany.succ)); done)))
      refine WC.loopK (σ := Nat × Value) [2, 7, 9, 16, 17, 18, 23] (fun s => [(24, i64 s.1)]) (fun s => [.blk r #[i64 (PR.mk 0 (l.drop (1 + s.1))).e, str (PR.mk 0 (l.drop (1 + s.1))).s] 108, .blk q #[s.2, b, y] U, .own 3 1 (s.2) (tpart l (1) s.1).length ((tpart l (1) s.1).map i64), .own 3 1 (b) (tpart l (1 + n0) 0).length ((tpart l (1 + n0) 0).map i64), .own 3 1 (y) (tpart l (1 + n0 + n1) 0).length ((tpart l (1 + n0 + n1) 0).map i64), .blk x #[ptr q 0, i64 n0, i64 m0] 97]) (fun s => s.1 ≤ n0 ∧ 1 + s.1 ≤ l.length) (fun s => n0 - s.1) (0, a) (by (focus ((repeat (first | exact Pick.nil | (apply Pick.cons; exact rfl))); done))) (by (focus ((repeat (first | exact trivial | (refine ⟨rfl, ?_⟩))); done))) (fun _ h => h.keep (by (focus ((repeat (first | exact TakeL.nil | apply TakeL.cons | exact Take.head | apply Take.tail)); done)))) ⟨Nat.zero_le _, hol⟩ (fun s hs => ?_)
      obtain ⟨k, v⟩ := s
      simp only [List.cons_append, List.nil_append] at hs ⊢
      obtain ⟨hs2, hol2⟩ := hs
      by_cases hlt2 : (k : Int) < n0
      · by_cases hz : ((l.drop (1 + k)).length : Int) = 0
        · repeat first
            | (apply WL.q; exact rfl; exact rfl; exact rfl; (first | (apply EvW.move; exact rfl) | (apply EvW.cmpT; exact rfl; exact rfl; exact rfl; omega)))
            | refine WC.seq ?_ | refine WC.region ?_ | refine WL.nil ?_ | refine WE.next ?_ | refine WC.block ?_ | refine WC.skip ?_ | refine WC.condT rfl ?_
          try refine WL.wanted rfl rfl rfl ?_
          apply WL.callA ([.blk r #[i64 (PR.mk 0 (l.drop (1 + k))).e, str (PR.mk 0 (l.drop (1 + k))).s] 108])
          · exact rfl
          · exact rfl
          · exact fun w => Try.call53 _ w
          · (focus ((repeat (first | exact TakeL.nil | apply TakeL.cons | exact Take.head | apply Take.tail)); done))
          · exact fun w1 S1 hS1 hs1 ho1 => left_spec r (PR.mk 0 (l.drop (1 + k))) w1 S1 hS1
          rintro _ _ ⟨rfl, rfl⟩
          first | refine WL.app4 ?_ | refine WL.app3 ?_ | refine WL.app2 ?_ | refine WL.app1 ?_ | refine WL.app0 ?_ | skip
          dsimp only
          repeat first
            | (apply WL.q; exact rfl; exact rfl; exact rfl; (first | (apply EvW.assign; exact rfl) | (apply EvW.cmpT; exact rfl; exact rfl; exact rfl; omega)))
            | refine WC.seq ?_ | refine WC.region ?_ | refine WL.nil ?_ | refine WE.next ?_ | refine WC.condT rfl ?_ | refine WC.ret ?_ | refine WE.passRet ?_ | refine WE.outRet ?_
          refine WE.bare ?_
          refine WE.ret1 rfl rfl ?_
          refine .inl ⟨rfl, rfl, fun h => ?_⟩
          have h1 := h.1
          rw [List.length_drop] at hz
          omega
        · have hlt3 : 1 + k < l.length := by rw [List.length_drop] at hz; omega
          have hpl := tpart_length l (1) k (by omega)
          repeat first
            | (apply WL.q; exact rfl; exact rfl; exact rfl; (first | (apply EvW.move; exact rfl) | (apply EvW.cmpT; exact rfl; exact rfl; exact rfl; omega)))
            | refine WC.seq ?_ | refine WC.region ?_ | refine WL.nil ?_ | refine WE.next ?_ | refine WC.block ?_ | refine WC.skip ?_ | refine WC.condT rfl ?_
          try refine WL.wanted rfl rfl rfl ?_
          apply WL.callA ([.blk r #[i64 (PR.mk 0 (l.drop (1 + k))).e, str (PR.mk 0 (l.drop (1 + k))).s] 108])
          · exact rfl
          · exact rfl
          · exact fun w => Try.call53 _ w
          · (focus ((repeat (first | exact TakeL.nil | apply TakeL.cons | exact Take.head | apply Take.tail)); done))
          · exact fun w1 S1 hS1 hs1 ho1 => left_spec r (PR.mk 0 (l.drop (1 + k))) w1 S1 hS1
          rintro _ _ ⟨rfl, rfl⟩
          first | refine WL.app4 ?_ | refine WL.app3 ?_ | refine WL.app2 ?_ | refine WL.app1 ?_ | refine WL.app0 ?_ | skip
          dsimp only
          repeat first
            | (apply WL.q; exact rfl; exact rfl; exact rfl; (first | (apply EvW.cmpF; exact rfl; exact rfl; exact rfl; omega)))
            | refine WL.nil ?_ | refine WE.next ?_ | refine WC.skip ?_ | refine WC.condF rfl ?_
          repeat refine WC.seq ?_
          refine WC.keep (xs := [.blk x #[ptr q 0, i64 n0, i64 m0] 97, .blk r #[i64 (PR.mk 0 (l.drop (1 + k))).e, str (PR.mk 0 (l.drop (1 + k))).s] 108, .own 3 1 (v) (tpart l (1) k).length ((tpart l (1) k).map i64), .blk q #[v, b, y] U, .own 3 1 (b) (tpart l (1 + n0) 0).length ((tpart l (1 + n0) 0).map i64), .own 3 1 (y) (tpart l (1 + n0 + n1) 0).length ((tpart l (1 + n0 + n1) 0).map i64)]) (by (focus ((repeat (first | exact TakeL.nil | apply TakeL.cons | exact Take.head | apply Take.tail)); done))) ?_
          apply WC.par _ (fun c : Ch => [.blk x #[ptr q 0, i64 n0, i64 m0] 97, .blk r #[i64 (PR.mk 0 (l.drop (1 + k))).e, str (PR.mk 0 (l.drop (1 + k))).s] 108, .blk r #[i64 (PR.mk 0 (l.drop (1 + k + 1))).e, str (PR.mk 0 (l.drop (1 + k + 1))).s] 108, .own 3 1 (v) (tpart l (1) k).length ((tpart l (1) k).map i64), .blk (c 8).1 #[i64 ((l.getD (1 + k) 0).toNat : Int)] 3, .own 3 1 ((c 9).2) ((tpart l (1) k).length + 1) ((tpart l (1) k).map i64 ++ [i64 ((l.getD (1 + k) 0).toNat : Int)]), .blk q #[v, b, y] U, .blk q #[(c 9).2, b, y] U, .own 3 1 (b) (tpart l (1 + n0) 0).length ((tpart l (1 + n0) 0).map i64), .own 3 1 (y) (tpart l (1 + n0 + n1) 0).length ((tpart l (1 + n0 + n1) 0).map i64)]) [none, none, some 7, none, some 8, some 9, none, some 11, none, none] [none, some 7, none, some 9, some 9, none, some 11, none, none, none] [(8, fun x => .slice (some ⟨x.1, 0, none⟩) 1 1), (9, fun x => x.2)] Try.mixed
          · (focus ((repeat (first | exact Restr.nil | (apply Restr.keep; exact rfl; exact rfl) | (apply Restr.drop; exact rfl))); done))
          · intro c; exact (by (focus ((repeat (first | exact SelT.nil | apply SelT.yes | apply SelT.no)); done)))
          · exact rfl
          · decide +kernel
          · decide +kernel
          · intro c
            (apply Par.quiet _ [true, false, false, false, false, false, true, false, true, true]; exact rfl; decide +kernel; exact rfl; intro R; refine ⟨_, (by (focus ((repeat (first | exact SelT.nil | apply SelT.yes | apply SelT.no)); done))), ?_⟩;
                 (first | (apply EvW.fieldAddr0; exact rfl; exact FldC.eq)))
            (apply Par.quiet _ [true, false, false, false, false, false, true, false, true, true]; exact rfl; decide +kernel; exact rfl; intro R; refine ⟨_, (by (focus ((repeat (first | exact SelT.nil | apply SelT.yes | apply SelT.no)); done))), ?_⟩;
                 (first | (apply EvW.load; exact rfl; exact ScalC.eq; (focus ((repeat (first | exact Take.head | apply Take.tail)); done)); exact rfl)))
            (apply Par.quiet _ [true, false, false, true, false, false, true, false, true, true]; exact rfl; decide +kernel; exact rfl; intro R; refine ⟨_, (by (focus ((repeat (first | exact SelT.nil | apply SelT.yes | apply SelT.no)); done))), ?_⟩;
                 (first | (apply EvW.fieldAddr0; exact rfl; exact FldC.eq)))
            (apply Par.quiet _ [true, false, false, true, false, false, true, false, true, true]; exact rfl; decide +kernel; exact rfl; intro R; refine ⟨_, (by (focus ((repeat (first | exact SelT.nil | apply SelT.yes | apply SelT.no)); done))), ?_⟩;
                 (first | (apply EvW.load; exact rfl; exact ScalC.eq; (focus ((repeat (first | exact Take.head | apply Take.tail)); done)); exact rfl)))
            (apply Par.quiet _ [true, false, false, true, false, false, true, false, true, true]; exact rfl; decide +kernel; exact rfl; intro R; refine ⟨_, (by (focus ((repeat (first | exact SelT.nil | apply SelT.yes | apply SelT.no)); done))), ?_⟩;
                 (first | (apply EvW.nilPtr; exact rfl)))
            (apply Par.quiet _ [true, false, false, true, false, false, true, false, true, true]; exact rfl; decide +kernel; exact rfl; intro R; refine ⟨_, (by (focus ((repeat (first | exact SelT.nil | apply SelT.yes | apply SelT.no)); done))), ?_⟩;
                 (first | (apply EvW.load; exact rfl; exact ScalC.eq; (focus ((repeat (first | exact Take.head | apply Take.tail)); done)); exact rfl)))
            (apply Par.quiet _ [true, true, false, true, false, false, true, false, true, true]; exact rfl; decide +kernel; exact rfl; intro R; refine ⟨_, (by (focus ((repeat (first | exact SelT.nil | apply SelT.yes | apply SelT.no)); done))), ?_⟩;
                 (first | (apply EvW.move; exact rfl)))
            apply Par.eff _ [false, true, false, false, false, false, false, false, false, false] [false, false, true, false, false, false, false, false, false, false] [true, false, false, true, false, false, true, false, true, true]
            · exact rfl
            · exact rfl
            · decide +kernel
            · intro R
              refine ⟨_, _, _, (by (focus ((repeat (first | exact SelT.nil | apply SelT.yes | apply SelT.no)); done))), (by (focus ((repeat (first | exact SelT.nil | apply SelT.yes | apply SelT.no)); done))), (by (focus ((repeat (first | exact SelT.nil | apply SelT.yes | apply SelT.no)); done))), ?_⟩
              apply EffW.callT
              · exact rfl
              · exact fun w1 S1 hS1 hs1 ho1 => (by have h := rbyte_spec r (PR.mk 0 (l.drop (1 + k))) w1 S1 hS1 (by simp; omega); rw [num1_drop l _ hlt3] at h; exact h)
              · exact fun w => Try.call44 _ w
              · (focus ((repeat (first | exact TakeL.nil | apply TakeL.cons | exact Take.head | apply Take.tail)); done))
              · exact fun _ _ h => h
              · exact fun _ h => TakeT.st (by (focus ((repeat (first | exact TakeT.tail | apply TakeT.cons | exact Take.head | apply Take.tail | apply TakeT.drop)); done))) h
            (apply Par.new _ [false, false, false, false, false, false, false, false, false, false] [false, false, false, false, true, false, false, false, false, false] [true, false, true, true, false, false, true, false, true, true]; exact rfl; exact rfl; decide +kernel; intro R; refine ⟨_, _, _, (by (focus ((repeat (first | exact SelT.nil | apply SelT.yes | apply SelT.no)); done))), (by (focus ((repeat (first | exact SelT.nil | apply SelT.yes | apply SelT.no)); done))), (fun x => (by (focus ((repeat (first | exact SelT.nil | apply SelT.yes | apply SelT.no)); done)))), ?_⟩; (apply NewW.buildSlice; exact UndC.eq; exact SzC.eq; exact ZvC.eq; exact rfl; exact rfl; exact rfl; (focus ((repeat (first | exact Flat.nil | (apply Flat.one; (first | exact rfl | assumption)) | (apply Flat.cons; exact rfl; exact rfl))); done)); exact rfl; exact rfl; exact fun _ => rfl))
            apply Par.new _ [false, false, false, true, true, false, false, false, false, false] [false, false, false, false, false, true, false, false, false, false] [true, false, true, false, false, false, true, false, true, true]
            · exact rfl
            · exact rfl
            · decide +kernel
            · intro R
              refine ⟨_, _, _, (by (focus ((repeat (first | exact SelT.nil | apply SelT.yes | apply SelT.no)); done))), (by (focus ((repeat (first | exact SelT.nil | apply SelT.yes | apply SelT.no)); done))), (fun x => (by (focus ((repeat (first | exact SelT.nil | apply SelT.yes | apply SelT.no)); done)))), ?_⟩
              (apply NewW.append; exact rfl; exact rfl; exact UndC.eq; exact SzC.eq; exact ByC.eq; exact ZvC.eq; exact rfl; (first | exact notInt_sl UndC.eq | exact notInt_st UndC.eq); exact rfl; (focus ((repeat (first | exact Take.head | apply Take.tail)); done)))
              · exact adds_blk (by (focus ((repeat (first | exact Take.head | apply Take.tail)); done))) rfl rfl
              · (omega)
              · exact fun _ _ h => TakeT.st (by (focus ((repeat (first | exact TakeT.tail | apply TakeT.cons | exact Take.head | apply Take.tail | apply TakeT.drop)); done))) h
            (apply Par.quiet _ [true, false, true, false, false, true, true, false, true, true]; exact rfl; decide +kernel; exact rfl; intro R; refine ⟨_, (by (focus ((repeat (first | exact SelT.nil | apply SelT.yes | apply SelT.no)); done))), ?_⟩;
                 (first | (apply EvW.nilPtr; exact rfl)))
            apply Par.eff _ [false, false, false, false, false, false, true, false, false, false] [false, false, false, false, false, false, false, true, false, false] [true, false, true, false, false, true, false, false, true, true]
            · exact rfl
            · exact rfl
            · decide +kernel
            · intro R
              refine ⟨_, _, _, (by (focus ((repeat (first | exact SelT.nil | apply SelT.yes | apply SelT.no)); done))), (by (focus ((repeat (first | exact SelT.nil | apply SelT.yes | apply SelT.no)); done))), (by (focus ((repeat (first | exact SelT.nil | apply SelT.yes | apply SelT.no)); done))), ?_⟩
              (apply EffW.storeSl; exact rfl; exact rfl; (focus ((repeat (first | exact Take.head | apply Take.tail)); done)); exact SzC.eq; (focus ((repeat (first | apply UpdC.head | apply UpdC.tail | exact SetMany.nil | apply SetMany.cons | apply SetMany.succ)); done)))
            exact Par.nil
          · repeat (first | exact AllN.nil | (apply AllN.cons; (intro c x; (repeat (first | exact IndA.nil | (apply IndA.skip; decide +kernel) | apply IndA.same))))) 
          · repeat (first | exact AllN.nil | (apply AllN.cons; (intro c x; (repeat (first | exact IndT.nil | (apply IndT.skip; decide +kernel) | apply IndT.same))))) 
          · exact fun _ => rfl
          intro c
          refine ⟨_, (by (focus ((repeat (first | exact SelT.nil | apply SelT.yes | apply SelT.no)); done))), ?_⟩
          apply WE.writ
          · (focus ((repeat (first | exact Writ.nil | apply Writ.some | apply Writ.none)); done))
          generalize (c 8).1 = b8
          generalize (c 9).2 = v2
          dsimp only
          rw [show (tpart l (1) k).map i64 ++ [i64 ((l.getD (1 + k) 0).toNat : Int)] = (tpart l (1) (k + 1)).map i64 from by rw [tpart_succ l _ k hlt3]; simp, show (tpart l (1) k).length + 1 = (tpart l (1) (k + 1)).length from by rw [tpart_succ l _ k hlt3]; simp]
          repeat first
            | (apply WL.q; exact rfl; exact rfl; exact rfl; (first | (apply EvW.move; exact rfl) | (apply EvW.arN; exact rfl; exact rfl; exact rfl; refine i64_in ?_ ?_ <;> omega)))
            | refine WC.region ?_ | refine WL.nil ?_ | refine WE.next ?_ | refine WE.out ?_
          exact WE.again (s := (k, v)) ((k + 1, v2)) ⟨by simp only []; omega, by simp only []; omega⟩ (by (focus ((repeat (first | exact trivial | (refine ⟨rfl, ?_⟩))); done))) (fun _ h => (by (try simp only []); (try rw [← Nat.add_assoc]); exact h.keep (by (focus ((repeat (first | exact TakeL.nil | apply TakeL.cons | exact Take.head | apply Take.tail)); done))))) (by (try simp only []); omega)
      · obtain rfl : n0 = k := by omega
        repeat first
          | (apply WL.q; exact rfl; exact rfl; exact rfl; (first | (apply EvW.move; exact rfl) | (apply EvW.cmpF; exact rfl; exact rfl; exact rfl; omega) | (apply EvW.arN; exact rfl; exact rfl; exact rfl; refine i64_in ?_ ?_ <;> omega)))
          | refine WC.seq ?_ | refine WC.region ?_ | refine WL.nil ?_ | refine WE.next ?_ | refine WC.exit ?_ | refine WE.pass ?_ | refine WE.hit ?_ | refine WE.out ?_ | refine WC.condF rfl ?_
        exact WE.again (s := (0, a, b, y)) ((1, v, b, y)) ⟨by simp only []; omega, by simp only [upto]; simp; omega⟩ (by (focus ((repeat (first | exact trivial | (refine ⟨rfl, ?_⟩))); done))) (fun _ h => (by (try simp only []); rw [show upto 1 0 n0 = n0 from rfl, show upto 1 1 n1 = 0 from rfl, show upto 1 2 n2 = 0 from rfl, show 1 + n0 + 0 + 0 = 1 + n0 from by omega]; exact h.keep (by (focus ((repeat (first | exact TakeL.nil | apply TakeL.cons | exact Take.head | apply Take.tail)); done))))) (by (try simp only []); omega)
    · rw [show upto 1 0 n0 = n0 from rfl, show upto 1 1 n1 = 0 from rfl, show upto 1 2 n2 = 0 from rfl] at hol
      rw [show upto 1 0 n0 = n0 from rfl, show upto 1 1 n1 = 0 from rfl, show upto 1 2 n2 = 0 from rfl]
      rw [show 1 + n0 + 0 + 0 = 1 + n0 from by omega]
      have hol : 1 + n0 ≤ l.length := by omega
      repeat first
        | (apply WL.q; exact rfl; exact rfl; exact rfl; (first | (apply EvW.cmpT; exact rfl; exact rfl; exact rfl; omega) | (apply EvW.idxRow; exact rfl; exact rfl; exact UndC.eq; exact SzC.eq; assumption; omega; omega)))
        | refine WC.seq ?_ | refine WC.region ?_ | refine WL.nil ?_ | refine WE.next ?_ | refine WC.block ?_ | refine WC.skip ?_ | refine WC.condT rfl ?_
      (apply WL.q; exact rfl; exact rfl; exact rfl; (apply EvW.ldElem (xs := fs) (z := (default : Fl)) (f := flC); exact rfl; exact AggC.eq; exact SzC.eq; exact rfl; exact fun _ => rfl; assumption; omega))
      try refine WL.wanted rfl rfl rfl ?_
      (apply WL.alloc; exact rfl; exact ZvC.eq; exact rfl; intro x)
      rw [show fs.getD (((1 : Nat) : Int)).toNat default = ⟨q, 1, .slice none 0 0, [], n1, m1⟩ from by rw [hfs]; rfl]
      repeat first
        | (apply WL.q; exact rfl; exact rfl; exact rfl; (first | (apply EvW.move; exact rfl) | (apply EvW.fieldAddr0; exact rfl; exact FldC.eq) | (apply EvW.load; exact rfl; exact ScalC.eq; (focus ((repeat (first | exact Take.head | apply Take.tail)); done)); exact rfl)))
        | refine WC.seq ?_ | refine WC.region ?_ | refine WL.nil ?_ | refine WE.next ?_ | refine WC.block ?_ | (apply WL.store; exact rfl; exact rfl; (first | assumption | exact rfl); exact SzC.eq; (first | assumption | exact rfl); (focus ((repeat (first | apply UpdC.head | apply UpdC.tail | exact SetMany.nil | apply SetMany.cons | apply SetMany.succ)); done)))
      refine WC.loopK (σ := Nat × Value) [2, 7, 9, 16, 17, 18, 23] (fun s => [(24, i64 s.1)]) (fun s => [.blk r #[i64 (PR.mk 0 (l.drop (1 + n0 + s.1))).e, str (PR.mk 0 (l.drop (1 + n0 + s.1))).s] 108, .blk q #[a, s.2, y] U, .own 3 1 (s.2) (tpart l (1 + n0) s.1).length ((tpart l (1 + n0) s.1).map i64), .own 3 1 (a) (tpart l (1) n0).length ((tpart l (1) n0).map i64), .own 3 1 (y) (tpart l (1 + n0 + n1) 0).length ((tpart l (1 + n0 + n1) 0).map i64), .blk x #[ptr q 1, i64 n1, i64 m1] 97]) (fun s => s.1 ≤ n1 ∧ 1 + n0 + s.1 ≤ l.length) (fun s => n1 - s.1) (0, b) (by (focus ((repeat (first | exact Pick.nil | (apply Pick.cons; exact rfl))); done))) (by (focus ((repeat (first | exact trivial | (refine ⟨rfl, ?_⟩))); done))) (fun _ h => h.keep (by (focus ((repeat (first | exact TakeL.nil | apply TakeL.cons | exact Take.head | apply Take.tail)); done)))) ⟨Nat.zero_le _, hol⟩ (fun s hs => ?_)
      obtain ⟨k, v⟩ := s
      simp only [List.cons_append, List.nil_append] at hs ⊢
      obtain ⟨hs2, hol2⟩ := hs
      by_cases hlt2 : (k : Int) < n1
      · by_cases hz : ((l.drop (1 + n0 + k)).length : Int) = 0
        · repeat first
            | (apply WL.q; exact rfl; exact rfl; exact rfl; (first | (apply EvW.move; exact rfl) | (apply EvW.cmpT; exact rfl; exact rfl; exact rfl; omega)))
            | refine WC.seq ?_ | refine WC.region ?_ | refine WL.nil ?_ | refine WE.next ?_ | refine WC.block ?_ | refine WC.skip ?_ | refine WC.condT rfl ?_
          try refine WL.wanted rfl rfl rfl ?_
          apply WL.callA ([.blk r #[i64 (PR.mk 0 (l.drop (1 + n0 + k))).e, str (PR.mk 0 (l.drop (1 + n0 + k))).s] 108])
          · exact rfl
          · exact rfl
          · exact fun w => Try.call53 _ w
          · (focus ((repeat (first | exact TakeL.nil | apply TakeL.cons | exact Take.head | apply Take.tail)); done))
          · exact fun w1 S1 hS1 hs1 ho1 => left_spec r (PR.mk 0 (l.drop (1 + n0 + k))) w1 S1 hS1
          rintro _ _ ⟨rfl, rfl⟩
          first | refine WL.app4 ?_ | refine WL.app3 ?_ | refine WL.app2 ?_ | refine WL.app1 ?_ | refine WL.app0 ?_ | skip
          dsimp only
          repeat first
            | (apply WL.q; exact rfl; exact rfl; exact rfl; (first | (apply EvW.assign; exact rfl) | (apply EvW.cmpT; exact rfl; exact rfl; exact rfl; omega)))
            | refine WC.seq ?_ | refine WC.region ?_ | refine WL.nil ?_ | refine WE.next ?_ | refine WC.condT rfl ?_ | refine WC.ret ?_ | refine WE.passRet ?_ | refine WE.outRet ?_
          refine WE.bare ?_
          refine WE.ret1 rfl rfl ?_
          refine .inl ⟨rfl, rfl, fun h => ?_⟩
          have h1 := h.1
          rw [List.length_drop] at hz
          omega
        · have hlt3 : 1 + n0 + k < l.length := by rw [List.length_drop] at hz; omega
          have hpl := tpart_length l (1 + n0) k (by omega)
          repeat first
            | (apply WL.q; exact rfl; exact rfl; exact rfl; (first | (apply EvW.move; exact rfl) | (apply EvW.cmpT; exact rfl; exact rfl; exact rfl; omega)))
            | refine WC.seq ?_ | refine WC.region ?_ | refine WL.nil ?_ | refine WE.next ?_ | refine WC.block ?_ | refine WC.skip ?_ | refine WC.condT rfl ?_
          try refine WL.wanted rfl rfl rfl ?_
          apply WL.callA ([.blk r #[i64 (PR.mk 0 (l.drop (1 + n0 + k))).e, str (PR.mk 0 (l.drop (1 + n0 + k))).s] 108])
          · exact rfl
          · exact rfl
          · exact fun w => Try.call53 _ w
          · (focus ((repeat (first | exact TakeL.nil | apply TakeL.cons | exact Take.head | apply Take.tail)); done))
          · exact fun w1 S1 hS1 hs1 ho1 => left_spec r (PR.mk 0 (l.drop (1 + n0 + k))) w1 S1 hS1
          rintro _ _ ⟨rfl, rfl⟩
          first | refine WL.app4 ?_ | refine WL.app3 ?_ | refine WL.app2 ?_ | refine WL.app1 ?_ | refine WL.app0 ?_ | skip
          dsimp only
          repeat first
            | (apply WL.q; exact rfl; exact rfl; exact rfl; (first | (apply EvW.cmpF; exact rfl; exact rfl; exact rfl; omega)))
            | refine WL.nil ?_ | refine WE.next ?_ | refine WC.skip ?_ | refine WC.condF rfl ?_
          repeat refine WC.seq ?_
          refine WC.keep (xs := [.blk x #[ptr q 1, i64 n1, i64 m1] 97, .blk r #[i64 (PR.mk 0 (l.drop (1 + n0 + k))).e, str (PR.mk 0 (l.drop (1 + n0 + k))).s] 108, .own 3 1 (v) (tpart l (1 + n0) k).length ((tpart l (1 + n0) k).map i64), .blk q #[a, v, y] U, .own 3 1 (a) (tpart l (1) n0).length ((tpart l (1) n0).map i64), .own 3 1 (y) (tpart l (1 + n0 + n1) 0).length ((tpart l (1 + n0 + n1) 0).map i64)]) (by (focus ((repeat (first | exact TakeL.nil | apply TakeL.cons | exact Take.head | apply Take.tail)); done))) ?_
          apply WC.par _ (fun c : Ch => [.blk x #[ptr q 1, i64 n1, i64 m1] 97, .blk r #[i64 (PR.mk 0 (l.drop (1 + n0 + k))).e, str (PR.mk 0 (l.drop (1 + n0 + k))).s] 108, .blk r #[i64 (PR.mk 0 (l.drop (1 + n0 + k + 1))).e, str (PR.mk 0 (l.drop (1 + n0 + k + 1))).s] 108, .own 3 1 (v) (tpart l (1 + n0) k).length ((tpart l (1 + n0) k).map i64), .blk (c 8).1 #[i64 ((l.getD (1 + n0 + k) 0).toNat : Int)] 3, .own 3 1 ((c 9).2) ((tpart l (1 + n0) k).length + 1) ((tpart l (1 + n0) k).map i64 ++ [i64 ((l.getD (1 + n0 + k) 0).toNat : Int)]), .blk q #[a, v, y] U, .blk q #[a, (c 9).2, y] U, .own 3 1 (a) (tpart l (1) n0).length ((tpart l (1) n0).map i64), .own 3 1 (y) (tpart l (1 + n0 + n1) 0).length ((tpart l (1 + n0 + n1) 0).map i64)]) [none, none, some 7, none, some 8, some 9, none, some 11, none, none] [none, some 7, none, some 9, some 9, none, some 11, none, none, none] [(8, fun x => .slice (some ⟨x.1, 0, none⟩) 1 1), (9, fun x => x.2)] Try.mixed
          · (focus ((repeat (first | exact Restr.nil | (apply Restr.keep; exact rfl; exact rfl) | (apply Restr.drop; exact rfl))); done))
          · intro c; exact (by (focus ((repeat (first | exact SelT.nil | apply SelT.yes | apply SelT.no)); done)))
          · exact rfl
          · decide +kernel
          · decide +kernel
          · intro c
            (apply Par.quiet _ [true, false, false, false, false, false, true, false, true, true]; exact rfl; decide +kernel; exact rfl; intro R; refine ⟨_, (by (focus ((repeat (first | exact SelT.nil | apply SelT.yes | apply SelT.no)); done))), ?_⟩;
                 (first | (apply EvW.fieldAddr0; exact rfl; exact FldC.eq)))
            (apply Par.quiet _ [true, false, false, false, false, false, true, false, true, true]; exact rfl; decide +kernel; exact rfl; intro R; refine ⟨_, (by (focus ((repeat (first | exact SelT.nil | apply SelT.yes | apply SelT.no)); done))), ?_⟩;
                 (first | (apply EvW.load; exact rfl; exact ScalC.eq; (focus ((repeat (first | exact Take.head | apply Take.tail)); done)); exact rfl)))
            (apply Par.quiet _ [true, false, false, true, false, false, true, false, true, true]; exact rfl; decide +kernel; exact rfl; intro R; refine ⟨_, (by (focus ((repeat (first | exact SelT.nil | apply SelT.yes | apply SelT.no)); done))), ?_⟩;
                 (first | (apply EvW.fieldAddr0; exact rfl; exact FldC.eq)))
            (apply Par.quiet _ [true, false, false, true, false, false, true, false, true, true]; exact rfl; decide +kernel; exact rfl; intro R; refine ⟨_, (by (focus ((repeat (first | exact SelT.nil | apply SelT.yes | apply SelT.no)); done))), ?_⟩;
                 (first | (apply EvW.load; exact rfl; exact ScalC.eq; (focus ((repeat (first | exact Take.head | apply Take.tail)); done)); exact rfl)))
            (apply Par.quiet _ [true, false, false, true, false, false, true, false, true, true]; exact rfl; decide +kernel; exact rfl; intro R; refine ⟨_, (by (focus ((repeat (first | exact SelT.nil | apply SelT.yes | apply SelT.no)); done))), ?_⟩;
                 (first | (apply EvW.nilPtr; exact rfl)))
            (apply Par.quiet _ [true, false, false, true, false, false, true, false, true, true]; exact rfl; decide +kernel; exact rfl; intro R; refine ⟨_, (by (focus ((repeat (first | exact SelT.nil | apply SelT.yes | apply SelT.no)); done))), ?_⟩;
                 (first | (apply EvW.load; exact rfl; exact ScalC.eq; (focus ((repeat (first | exact Take.head | apply Take.tail)); done)); exact rfl)))
            (apply Par.quiet _ [true, true, false, true, false, false, true, false, true, true]; exact rfl; decide +kernel; exact rfl; intro R; refine ⟨_, (by (focus ((repeat (first | exact SelT.nil | apply SelT.yes | apply SelT.no)); done))), ?_⟩;
                 (first | (apply EvW.move; exact rfl)))
            apply Par.eff _ [false, true, false, false, false, false, false, false, false, false] [false, false, true, false, false, false, false, false, false, false] [true, false, false, true, false, false, true, false, true, true]
            · exact rfl
            · exact rfl
            · decide +kernel
            · intro R
              refine ⟨_, _, _, (by (focus ((repeat (first | exact SelT.nil | apply SelT.yes | apply SelT.no)); done))), (by (focus ((repeat (first | exact SelT.nil | apply SelT.yes | apply SelT.no)); done))), (by (focus ((repeat (first | exact SelT.nil | apply SelT.yes | apply SelT.no)); done))), ?_⟩
              apply EffW.callT
              · exact rfl
              · exact fun w1 S1 hS1 hs1 ho1 => (by have h := rbyte_spec r (PR.mk 0 (l.drop (1 + n0 + k))) w1 S1 hS1 (by simp; omega); rw [num1_drop l _ hlt3] at h; exact h)
              · exact fun w => Try.call44 _ w
              · (focus ((repeat (first | exact TakeL.nil | apply TakeL.cons | exact Take.head | apply Take.tail)); done))
              · exact fun _ _ h => h
              · exact fun _ h => TakeT.st (by (focus ((repeat (first | exact TakeT.tail | apply TakeT.cons | exact Take.head | apply Take.tail | apply TakeT.drop)); done))) h
            (apply Par.new _ [false, false, false, false, false, false, false, false, false, false] [false, false, false, false, true, false, false, false, false, false] [true, false, true, true, false, false, true, false, true, true]; exact rfl; exact rfl; decide +kernel; intro R; refine ⟨_, _, _, (by (focus ((repeat (first | exact SelT.nil | apply SelT.yes | apply SelT.no)); done))), (by (focus ((repeat (first | exact SelT.nil | apply SelT.yes | apply SelT.no)); done))), (fun x => (by (focus ((repeat (first | exact SelT.nil | apply SelT.yes | apply SelT.no)); done)))), ?_⟩; (apply NewW.buildSlice; exact UndC.eq; exact SzC.eq; exact ZvC.eq; exact rfl; exact rfl; exact rfl; (focus ((repeat (first | exact Flat.nil | (apply Flat.one; (first | exact rfl | assumption)) | (apply Flat.cons; exact rfl; exact rfl))); done)); exact rfl; exact rfl; exact fun _ => rfl))
            apply Par.new _ [false, false, false, true, true, false, false, false, false, false] [false, false, false, false, false, true, false, false, false, false] [true, false, true, false, false, false, true, false, true, true]
            · exact rfl
            · exact rfl
            · decide +kernel
            · intro R
              refine ⟨_, _, _, (by (focus ((repeat (first | exact SelT.nil | apply SelT.yes | apply SelT.no)); done))), (by (focus ((repeat (first | exact SelT.nil | apply SelT.yes | apply SelT.no)); done))), (fun x => (by (focus ((repeat (first | exact SelT.nil | apply SelT.yes | apply SelT.no)); done)))), ?_⟩
              (apply NewW.append; exact rfl; exact rfl; exact UndC.eq; exact SzC.eq; exact ByC.eq; exact ZvC.eq; exact rfl; (first | exact notInt_sl UndC.eq | exact notInt_st UndC.eq); exact rfl; (focus ((repeat (first | exact Take.head | apply Take.tail)); done)))
              · exact adds_blk (by (focus ((repeat (first | exact Take.head | apply Take.tail)); done))) rfl rfl
              · (omega)
              · exact fun _ _ h => TakeT.st (by (focus ((repeat (first | exact TakeT.tail | apply TakeT.cons | exact Take.head | apply Take.tail | apply TakeT.drop)); done))) h
            (apply Par.quiet _ [true, false, true, false, false, true, true, false, true, true]; exact rfl; decide +kernel; exact rfl; intro R; refine ⟨_, (by (focus ((repeat (first | exact SelT.nil | apply SelT.yes | apply SelT.no)); done))), ?_⟩;
                 (first | (apply EvW.nilPtr; exact rfl)))
            apply Par.eff _ [false, false, false, false, false, false, true, false, false, false] [false, false, false, false, false, false, false, true, false, false] [true, false, true, false, false, true, false, false, true, true]
            · exact rfl
            · exact rfl
            · decide +kernel
            · intro R
              refine ⟨_, _, _, (by (focus ((repeat (first | exact SelT.nil | apply SelT.yes | apply SelT.no)); done))), (by (focus ((repeat (first | exact SelT.nil | apply SelT.yes | apply SelT.no)); done))), (by (focus ((repeat (first | exact SelT.nil | apply SelT.yes | apply SelT.no)); done))), ?_⟩
              (apply EffW.storeSl; exact rfl; exact rfl; (focus ((repeat (first | exact Take.head | apply Take.tail)); done)); exact SzC.eq; (focus ((repeat (first | apply UpdC.head | apply UpdC.tail | exact SetMany.nil | apply SetMany.cons | apply SetMany.succ)); done)))
            exact Par.nil
          · repeat (first | exact AllN.nil | (apply AllN.cons; (intro c x; (repeat (first | exact IndA.nil | (apply IndA.skip; decide +kernel) | apply IndA.same))))) 
          · repeat (first | exact AllN.nil | (apply AllN.cons; (intro c x; (repeat (first | exact IndT.nil | (apply IndT.skip; decide +kernel) | apply IndT.same))))) 
          · exact fun _ => rfl
          intro c
          refine ⟨_, (by (focus ((repeat (first | exact SelT.nil | apply SelT.yes | apply SelT.no)); done))), ?_⟩
          apply WE.writ
          · (focus ((repeat (first | exact Writ.nil | apply Writ.some | apply Writ.none)); done))
          generalize (c 8).1 = b8
          generalize (c 9).2 = v2
          dsimp only
          rw [show (tpart l (1 + n0) k).map i64 ++ [i64 ((l.getD (1 + n0 + k) 0).toNat : Int)] = (tpart l (1 + n0) (k + 1)).map i64 from by rw [tpart_succ l _ k hlt3]; simp, show (tpart l (1 + n0) k).length + 1 = (tpart l (1 + n0) (k + 1)).length from by rw [tpart_succ l _ k hlt3]; simp]
          repeat first
            | (apply WL.q; exact rfl; exact rfl; exact rfl; (first | (apply EvW.move; exact rfl) | (apply EvW.arN; exact rfl; exact rfl; exact rfl; refine i64_in ?_ ?_ <;> omega)))
            | refine WC.region ?_ | refine WL.nil ?_ | refine WE.next ?_ | refine WE.out ?_
          exact WE.again (s := (k, v)) ((k + 1, v2)) ⟨by simp only []; omega, by simp only []; omega⟩ (by (focus ((repeat (first | exact trivial | (refine ⟨rfl, ?_⟩))); done))) (fun _ h => (by (try simp only []); (try rw [← Nat.add_assoc]); exact h.keep (by (focus ((repeat (first | exact TakeL.nil | apply TakeL.cons | exact Take.head | apply Take.tail)); done))))) (by (try simp only []); omega)
      · obtain rfl : n1 = k := by omega
        repeat first
          | (apply WL.q; exact rfl; exact rfl; exact rfl; (first | (apply EvW.move; exact rfl) | (apply EvW.cmpF; exact rfl; exact rfl; exact rfl; omega) | (apply EvW.arN; exact rfl; exact rfl; exact rfl; refine i64_in ?_ ?_ <;> omega)))
          | refine WC.seq ?_ | refine WC.region ?_ | refine WL.nil ?_ | refine WE.next ?_ | refine WC.exit ?_ | refine WE.pass ?_ | refine WE.hit ?_ | refine WE.out ?_ | refine WC.condF rfl ?_
        exact WE.again (s := (1, a, b, y)) ((2, a, v, y)) ⟨by simp only []; omega, by simp only [upto]; simp; omega⟩ (by (focus ((repeat (first | exact trivial | (refine ⟨rfl, ?_⟩))); done))) (fun _ h => (by (try simp only []); rw [show upto 2 0 n0 = n0 from rfl, show upto 2 1 n1 = n1 from rfl, show upto 2 2 n2 = 0 from rfl, show 1 + n0 + n1 + 0 = 1 + n0 + n1 from by omega]; exact h.keep (by (focus ((repeat (first | exact TakeL.nil | apply TakeL.cons | exact Take.head | apply Take.tail)); done))))) (by (try simp only []); omega)
    · rw [show upto 2 0 n0 = n0 from rfl, show upto 2 1 n1 = n1 from rfl, show upto 2 2 n2 = 0 from rfl] at hol
      rw [show upto 2 0 n0 = n0 from rfl, show upto 2 1 n1 = n1 from rfl, show upto 2 2 n2 = 0 from rfl]
      rw [show 1 + n0 + n1 + 0 = 1 + n0 + n1 from by omega]
      have hol : 1 + n0 + n1 ≤ l.length := by omega
      repeat first
        | (apply WL.q; exact rfl; exact rfl; exact rfl; (first | (apply EvW.cmpT; exact rfl; exact rfl; exact rfl; omega) | (apply EvW.idxRow; exact rfl; exact rfl; exact UndC.eq; exact SzC.eq; assumption; omega; omega)))
        | refine WC.seq ?_ | refine WC.region ?_ | refine WL.nil ?_ | refine WE.next ?_ | refine WC.block ?_ | refine WC.skip ?_ | refine WC.condT rfl ?_
      (apply WL.q; exact rfl; exact rfl; exact rfl; (apply EvW.ldElem (xs := fs) (z := (default : Fl)) (f := flC); exact rfl; exact AggC.eq; exact SzC.eq; exact rfl; exact fun _ => rfl; assumption; omega))
      try refine WL.wanted rfl rfl rfl ?_
      (apply WL.alloc; exact rfl; exact ZvC.eq; exact rfl; intro x)
      rw [show fs.getD (((2 : Nat) : Int)).toNat default = ⟨q, 2, .slice none 0 0, [], n2, m2⟩ from by rw [hfs]; rfl]
      repeat first
        | (apply WL.q; exact rfl; exact rfl; exact rfl; (first | (apply EvW.move; exact rfl) | (apply EvW.fieldAddr0; exact rfl; exact FldC.eq) | (apply EvW.load; exact rfl; exact ScalC.eq; (focus ((repeat (first | exact Take.head | apply Take.tail)); done)); exact rfl)))
        | refine WC.seq ?_ | refine WC.region ?_ | refine WL.nil ?_ | refine WE.next ?_ | refine WC.block ?_ | (apply WL.store; exact rfl; exact rfl; (first | assumption | exact rfl); exact SzC.eq; (first | assumption | exact rfl); (focus ((repeat (first | apply UpdC.head | apply UpdC.tail | exact SetMany.nil | apply SetMany.cons | apply SetMany.succ)); done)))
      refine WC.loopK (σ := Nat × Value) [2, 7, 9, 16, 17, 18, 23] (fun s => [(24, i64 s.1)]) (fun s => [.blk r #[i64 (PR.mk 0 (l.drop (1 + n0 + n1 + s.1))).e, str (PR.mk 0 (l.drop (1 + n0 + n1 + s.1))).s] 108, .blk q #[a, b, s.2] U, .own 3 1 (s.2) (tpart l (1 + n0 + n1) s.1).length ((tpart l (1 + n0 + n1) s.1).map i64), .own 3 1 (a) (tpart l (1) n0).length ((tpart l (1) n0).map i64), .own 3 1 (b) (tpart l (1 + n0) n1).length ((tpart l (1 + n0) n1).map i64), .blk x #[ptr q 2, i64 n2, i64 m2] 97]) (fun s => s.1 ≤ n2 ∧ 1 + n0 + n1 + s.1 ≤ l.length) (fun s => n2 - s.1) (0, y) (by (focus ((repeat (first | exact Pick.nil | (apply Pick.cons; exact rfl))); done))) (by (focus ((repeat (first | exact trivial | (refine ⟨rfl, ?_⟩))); done))) (fun _ h => h.keep (by (focus ((repeat (first | exact TakeL.nil | apply TakeL.cons | exact Take.head | apply Take.tail)); done)))) ⟨Nat.zero_le _, hol⟩ (fun s hs => ?_)
      obtain ⟨k, v⟩ := s
      simp only [List.cons_append, List.nil_append] at hs ⊢
      obtain ⟨hs2, hol2⟩ := hs
      by_cases hlt2 : (k : Int) < n2
      · by_cases hz : ((l.drop (1 + n0 + n1 + k)).length : Int) = 0
        · repeat first
            | (apply WL.q; exact rfl; exact rfl; exact rfl; (first | (apply EvW.move; exact rfl) | (apply EvW.cmpT; exact rfl; exact rfl; exact rfl; omega)))
            | refine WC.seq ?_ | refine WC.region ?_ | refine WL.nil ?_ | refine WE.next ?_ | refine WC.block ?_ | refine WC.skip ?_ | refine WC.condT rfl ?_
          try refine WL.wanted rfl rfl rfl ?_
          apply WL.callA ([.blk r #[i64 (PR.mk 0 (l.drop (1 + n0 + n1 + k))).e, str (PR.mk 0 (l.drop (1 + n0 + n1 + k))).s] 108])
          · exact rfl
          · exact rfl
          · exact fun w => Try.call53 _ w
          · (focus ((repeat (first | exact TakeL.nil | apply TakeL.cons | exact Take.head | apply Take.tail)); done))
          · exact fun w1 S1 hS1 hs1 ho1 => left_spec r (PR.mk 0 (l.drop (1 + n0 + n1 + k))) w1 S1 hS1
          rintro _ _ ⟨rfl, rfl⟩
          first | refine WL.app4 ?_ | refine WL.app3 ?_ | refine WL.app2 ?_ | refine WL.app1 ?_ | refine WL.app0 ?_ | skip
          dsimp only
          repeat first
            | (apply WL.q; exact rfl; exact rfl; exact rfl; (first | (apply EvW.assign; exact rfl) | (apply EvW.cmpT; exact rfl; exact rfl; exact rfl; omega)))
            | refine WC.seq ?_ | refine WC.region ?_ | refine WL.nil ?_ | refine WE.next ?_ | refine WC.condT rfl ?_ | refine WC.ret ?_ | refine WE.passRet ?_ | refine WE.outRet ?_
          refine WE.bare ?_
          refine WE.ret1 rfl rfl ?_
          refine .inl ⟨rfl, rfl, fun h => ?_⟩
          have h1 := h.1
          rw [List.length_drop] at hz
          omega
        · have hlt3 : 1 + n0 + n1 + k < l.length := by rw [List.length_drop] at hz; omega
          have hpl := tpart_length l (1 + n0 + n1) k (by omega)
          repeat first
            | (apply WL.q; exact rfl; exact rfl; exact rfl; (first | (apply EvW.move; exact rfl) | (apply EvW.cmpT; exact rfl; exact rfl; exact rfl; omega)))
            | refine WC.seq ?_ | refine WC.region ?_ | refine WL.nil ?_ | refine WE.next ?_ | refine WC.block ?_ | refine WC.skip ?_ | refine WC.condT rfl ?_
          try refine WL.wanted rfl rfl rfl ?_
          apply WL.callA ([.blk r #[i64 (PR.mk 0 (l.drop (1 + n0 + n1 + k))).e, str (PR.mk 0 (l.drop (1 + n0 + n1 + k))).s] 108])
          · exact rfl
          · exact rfl
          · exact fun w => Try.call53 _ w
          · (focus ((repeat (first | exact TakeL.nil | apply TakeL.cons | exact Take.head | apply Take.tail)); done))
          · exact fun w1 S1 hS1 hs1 ho1 => left_spec r (PR.mk 0 (l.drop (1 + n0 + n1 + k))) w1 S1 hS1
          rintro _ _ ⟨rfl, rfl⟩
          first | refine WL.app4 ?_ | refine WL.app3 ?_ | refine WL.app2 ?_ | refine WL.app1 ?_ | refine WL.app0 ?_ | skip
          dsimp only
          repeat first
            | (apply WL.q; exact rfl; exact rfl; exact rfl; (first | (apply EvW.cmpF; exact rfl; exact rfl; exact rfl; omega)))
            | refine WL.nil ?_ | refine WE.next ?_ | refine WC.skip ?_ | refine WC.condF rfl ?_
          repeat refine WC.seq ?_
          refine WC.keep (xs := [.blk x #[ptr q 2, i64 n2, i64 m2] 97, .blk r #[i64 (PR.mk 0 (l.drop (1 + n0 + n1 + k))).e, str (PR.mk 0 (l.drop (1 + n0 + n1 + k))).s] 108, .own 3 1 (v) (tpart l (1 + n0 + n1) k).length ((tpart l (1 + n0 + n1) k).map i64), .blk q #[a, b, v] U, .own 3 1 (a) (tpart l (1) n0).length ((tpart l (1) n0).map i64), .own 3 1 (b) (tpart l (1 + n0) n1).length ((tpart l (1 + n0) n1).map i64)]) (by (focus ((repeat (first | exact TakeL.nil | apply TakeL.cons | exact Take.head | apply Take.tail)); done))) ?_
          apply WC.par _ (fun c : Ch => [.blk x #[ptr q 2, i64 n2, i64 m2] 97, .blk r #[i64 (PR.mk 0 (l.drop (1 + n0 + n1 + k))).e, str (PR.mk 0 (l.drop (1 + n0 + n1 + k))).s] 108, .blk r #[i64 (PR.mk 0 (l.drop (1 + n0 + n1 + k + 1))).e, str (PR.mk 0 (l.drop (1 + n0 + n1 + k + 1))).s] 108, .own 3 1 (v) (tpart l (1 + n0 + n1) k).length ((tpart l (1 + n0 + n1) k).map i64), .blk (c 8).1 #[i64 ((l.getD (1 + n0 + n1 + k) 0).toNat : Int)] 3, .own 3 1 ((c 9).2) ((tpart l (1 + n0 + n1) k).length + 1) ((tpart l (1 + n0 + n1) k).map i64 ++ [i64 ((l.getD (1 + n0 + n1 + k) 0).toNat : Int)]), .blk q #[a, b, v] U, .blk q #[a, b, (c 9).2] U, .own 3 1 (a) (tpart l (1) n0).length ((tpart l (1) n0).map i64), .own 3 1 (b) (tpart l (1 + n0) n1).length ((tpart l (1 + n0) n1).map i64)]) [none, none, some 7, none, some 8, some 9, none, some 11, none, none] [none, some 7, none, some 9, some 9, none, some 11, none, none, none] [(8, fun x => .slice (some ⟨x.1, 0, none⟩) 1 1), (9, fun x => x.2)] Try.mixed
          · (focus ((repeat (first | exact Restr.nil | (apply Restr.keep; exact rfl; exact rfl) | (apply Restr.drop; exact rfl))); done))
          · intro c; exact (by (focus ((repeat (first | exact SelT.nil | apply SelT.yes | apply SelT.no)); done)))
          · exact rfl
          · decide +kernel
          · decide +kernel
          · intro c
            (apply Par.quiet _ [true, false, false, false, false, false, true, false, true, true]; exact rfl; decide +kernel; exact rfl; intro R; refine ⟨_, (by (focus ((repeat (first | exact SelT.nil | apply SelT.yes | apply SelT.no)); done))), ?_⟩;
                 (first | (apply EvW.fieldAddr0; exact rfl; exact FldC.eq)))
            (apply Par.quiet _ [true, false, false, false, false, false, true, false, true, true]; exact rfl; decide +kernel; exact rfl; intro R; refine ⟨_, (by (focus ((repeat (first | exact SelT.nil | apply SelT.yes | apply SelT.no)); done))), ?_⟩;
                 (first | (apply EvW.load; exact rfl; exact ScalC.eq; (focus ((repeat (first | exact Take.head | apply Take.tail)); done)); exact rfl)))
            (apply Par.quiet _ [true, false, false, true, false, false, true, false, true, true]; exact rfl; decide +kernel; exact rfl; intro R; refine ⟨_, (by (focus ((repeat (first | exact SelT.nil | apply SelT.yes | apply SelT.no)); done))), ?_⟩;
                 (first | (apply EvW.fieldAddr0; exact rfl; exact FldC.eq)))
            (apply Par.quiet _ [true, false, false, true, false, false, true, false, true, true]; exact rfl; decide +kernel; exact rfl; intro R; refine ⟨_, (by (focus ((repeat (first | exact SelT.nil | apply SelT.yes | apply SelT.no)); done))), ?_⟩;
                 (first | (apply EvW.load; exact rfl; exact ScalC.eq; (focus ((repeat (first | exact Take.head | apply Take.tail)); done)); exact rfl)))
            (apply Par.quiet _ [true, false, false, true, false, false, true, false, true, true]; exact rfl; decide +kernel; exact rfl; intro R; refine ⟨_, (by (focus ((repeat (first | exact SelT.nil | apply SelT.yes | apply SelT.no)); done))), ?_⟩;
                 (first | (apply EvW.nilPtr; exact rfl)))
            (apply Par.quiet _ [true, false, false, true, false, false, true, false, true, true]; exact rfl; decide +kernel; exact rfl; intro R; refine ⟨_, (by (focus ((repeat (first | exact SelT.nil | apply SelT.yes | apply SelT.no)); done))), ?_⟩;
                 (first | (apply EvW.load; exact rfl; exact ScalC.eq; (focus ((repeat (first | exact Take.head | apply Take.tail)); done)); exact rfl)))
            (apply Par.quiet _ [true, true, false, true, false, false, true, false, true, true]; exact rfl; decide +kernel; exact rfl; intro R; refine ⟨_, (by (focus ((repeat (first | exact SelT.nil | apply SelT.yes | apply SelT.no)); done))), ?_⟩;
                 (first | (apply EvW.move; exact rfl)))
            apply Par.eff _ [false, true, false, false, false, false, false, false, false, false] [false, false, true, false, false, false, false, false, false, false] [true, false, false, true, false, false, true, false, true, true]
            · exact rfl
            · exact rfl
            · decide +kernel
            · intro R
              refine ⟨_, _, _, (by (focus ((repeat (first | exact SelT.nil | apply SelT.yes | apply SelT.no)); done))), (by (focus ((repeat (first | exact SelT.nil | apply SelT.yes | apply SelT.no)); done))), (by (focus ((repeat (first | exact SelT.nil | apply SelT.yes | apply SelT.no)); done))), ?_⟩
              apply EffW.callT
              · exact rfl
              · exact fun w1 S1 hS1 hs1 ho1 => (by have h := rbyte_spec r (PR.mk 0 (l.drop (1 + n0 + n1 + k))) w1 S1 hS1 (by simp; omega); rw [num1_drop l _ hlt3] at h; exact h)
              · exact fun w => Try.call44 _ w
              · (focus ((repeat (first | exact TakeL.nil | apply TakeL.cons | exact Take.head | apply Take.tail)); done))
              · exact fun _ _ h => h
              · exact fun _ h => TakeT.st (by (focus ((repeat (first | exact TakeT.tail | apply TakeT.cons | exact Take.head | apply Take.tail | apply TakeT.drop)); done))) h
            (apply Par.new _ [false, false, false, false, false, false, false, false, false, false] [false, false, false, false, true, false, false, false, false, false] [true, false, true, true, false, false, true, false, true, true]; exact rfl; exact rfl; decide +kernel; intro R; refine ⟨_, _, _, (by (focus ((repeat (first | exact SelT.nil | apply SelT.yes | apply SelT.no)); done))), (by (focus ((repeat (first | exact SelT.nil | apply SelT.yes | apply SelT.no)); done))), (fun x => (by (focus ((repeat (first | exact SelT.nil | apply SelT.yes | apply SelT.no)); done)))), ?_⟩; (apply NewW.buildSlice; exact UndC.eq; exact SzC.eq; exact ZvC.eq; exact rfl; exact rfl; exact rfl; (focus ((repeat (first | exact Flat.nil | (apply Flat.one; (first | exact rfl | assumption)) | (apply Flat.cons; exact rfl; exact rfl))); done)); exact rfl; exact rfl; exact fun _ => rfl))
            apply Par.new _ [false, false, false, true, true, false, false, false, false, false] [false, false, false, false, false, true, false, false, false, false] [true, false, true, false, false, false, true, false, true, true]
            · exact rfl
            · exact rfl
            · decide +kernel
            · intro R
              refine ⟨_, _, _, (by (focus ((repeat (first | exact SelT.nil | apply SelT.yes | apply SelT.no)); done))), (by (focus ((repeat (first | exact SelT.nil | apply SelT.yes | apply SelT.no)); done))), (fun x => (by (focus ((repeat (first | exact SelT.nil | apply SelT.yes | apply SelT.no)); done)))), ?_⟩
              (apply NewW.append; exact rfl; exact rfl; exact UndC.eq; exact SzC.eq; exact ByC.eq; exact ZvC.eq; exact rfl; (first | exact notInt_sl UndC.eq | exact notInt_st UndC.eq); exact rfl; (focus ((repeat (first | exact Take.head | apply Take.tail)); done)))
              · exact adds_blk (by (focus ((repeat (first | exact Take.head | apply Take.tail)); done))) rfl rfl
              · (omega)
              · exact fun _ _ h => TakeT.st (by (focus ((repeat (first | exact TakeT.tail | apply TakeT.cons | exact Take.head | apply Take.tail | apply TakeT.drop)); done))) h
            (apply Par.quiet _ [true, false, true, false, false, true, true, false, true, true]; exact rfl; decide +kernel; exact rfl; intro R; refine ⟨_, (by (focus ((repeat (first | exact SelT.nil | apply SelT.yes | apply SelT.no)); done))), ?_⟩;
                 (first | (apply EvW.nilPtr; exact rfl)))
            apply Par.eff _ [false, false, false, false, false, false, true, false, false, false] [false, false, false, false, false, false, false, true, false, false] [true, false, true, false, false, true, false, false, true, true]
            · exact rfl
            · exact rfl
            · decide +kernel
            · intro R
              refine ⟨_, _, _, (by (focus ((repeat (first | exact SelT.nil | apply SelT.yes | apply SelT.no)); done))), (by (focus ((repeat (first | exact SelT.nil | apply SelT.yes | apply SelT.no)); done))), (by (focus ((repeat (first | exact SelT.nil | apply SelT.yes | apply SelT.no)); done))), ?_⟩
              (apply EffW.storeSl; exact rfl; exact rfl; (focus ((repeat (first | exact Take.head | apply Take.tail)); done)); exact SzC.eq; (focus ((repeat (first | apply UpdC.head | apply UpdC.tail | exact SetMany.nil | apply SetMany.cons | apply SetMany.succ)); done)))
            exact Par.nil
          · repeat (first | exact AllN.nil | (apply AllN.cons; (intro c x; (repeat (first | exact IndA.nil | (apply IndA.skip; decide +kernel) | apply IndA.same))))) 
          · repeat (first | exact AllN.nil | (apply AllN.cons; (intro c x; (repeat (first | exact IndT.nil | (apply IndT.skip; decide +kernel) | apply IndT.same))))) 
          · exact fun _ => rfl
          intro c
          refine ⟨_, (by (focus ((repeat (first | exact SelT.nil | apply SelT.yes | apply SelT.no)); done))), ?_⟩
          apply WE.writ
          · (focus ((repeat (first | exact Writ.nil | apply Writ.some | apply Writ.none)); done))
          generalize (c 8).1 = b8
          generalize (c 9).2 = v2
          dsimp only
          rw [show (tpart l (1 + n0 + n1) k).map i64 ++ [i64 ((l.getD (1 + n0 + n1 + k) 0).toNat : Int)] = (tpart l (1 + n0 + n1) (k + 1)).map i64 from by rw [tpart_succ l _ k hlt3]; simp, show (tpart l (1 + n0 + n1) k).length + 1 = (tpart l (1 + n0 + n1) (k + 1)).length from by rw [tpart_succ l _ k hlt3]; simp]
          repeat first
            | (apply WL.q; exact rfl; exact rfl; exact rfl; (first | (apply EvW.move; exact rfl) | (apply EvW.arN; exact rfl; exact rfl; exact rfl; refine i64_in ?_ ?_ <;> omega)))
            | refine WC.region ?_ | refine WL.nil ?_ | refine WE.next ?_ | refine WE.out ?_
          exact WE.again (s := (k, v)) ((k + 1, v2)) ⟨by simp only []; omega, by simp only []; omega⟩ (by (focus ((repeat (first | exact trivial | (refine ⟨rfl, ?_⟩))); done))) (fun _ h => (by (try simp only []); (try rw [← Nat.add_assoc]); exact h.keep (by (focus ((repeat (first | exact TakeL.nil | apply TakeL.cons | exact Take.head | apply Take.tail)); done))))) (by (try simp only []); omega)
      · obtain rfl : n2 = k := by omega
        repeat first
          | (apply WL.q; exact rfl; exact rfl; exact rfl; (first | (apply EvW.move; exact rfl) | (apply EvW.cmpF; exact rfl; exact rfl; exact rfl; omega) | (apply EvW.arN; exact rfl; exact rfl; exact rfl; refine i64_in ?_ ?_ <;> omega)))
          | refine WC.seq ?_ | refine WC.region ?_ | refine WL.nil ?_ | refine WE.next ?_ | refine WC.exit ?_ | refine WE.pass ?_ | refine WE.hit ?_ | refine WE.out ?_ | refine WC.condF rfl ?_
        exact WE.again (s := (2, a, b, y)) ((3, a, b, v)) ⟨by simp only []; omega, by simp only [upto]; simp; omega⟩ (by (focus ((repeat (first | exact trivial | (refine ⟨rfl, ?_⟩))); done))) (fun _ h => (by (try simp only []); rw [show upto 3 0 n0 = n0 from rfl, show upto 3 1 n1 = n1 from rfl, show upto 3 2 n2 = n2 from rfl]; exact h.keep (by (focus ((repeat (first | exact TakeL.nil | apply TakeL.cons | exact Take.head | apply Take.tail)); done))))) (by (try simp only []); omega)
  · obtain rfl : i = 3 := by omega
    rw [show upto 3 0 n0 = n0 from rfl, show upto 3 1 n1 = n1 from rfl, show upto 3 2 n2 = n2 from rfl] at hol
    rw [show upto 3 0 n0 = n0 from rfl, show upto 3 1 n1 = n1 from rfl, show upto 3 2 n2 = n2 from rfl]
    repeat first
      | (apply WL.q; exact rfl; exact rfl; exact rfl; (first | (apply EvW.move; exact rfl) | (apply EvW.cmpF; exact rfl; exact rfl; exact rfl; omega)))
      | refine WC.seq ?_ | refine WC.region ?_ | refine WL.nil ?_ | refine WE.next ?_ | refine WC.exit ?_ | refine WE.pass ?_ | refine WE.hit ?_ | refine WC.condF rfl ?_
    try refine WL.wanted rfl rfl rfl ?_
    apply WL.callA ([.blk r #[i64 (PR.mk 0 (l.drop (1 + n0 + n1 + n2))).e, str (PR.mk 0 (l.drop (1 + n0 + n1 + n2))).s] 108])
    · exact rfl
    · exact rfl
    · exact fun w => Try.call46 _ w
    · (focus ((repeat (first | exact TakeL.nil | apply TakeL.cons | exact Take.head | apply Take.tail)); done))
    · exact fun w1 S1 hS1 hs1 ho1 => rend_spec r (PR.mk 0 (l.drop (1 + n0 + n1 + n2))) w1 S1 hS1
    rintro _ _ ⟨rfl, rfl⟩
    first | refine WL.app4 ?_ | refine WL.app3 ?_ | refine WL.app2 ?_ | refine WL.app1 ?_ | refine WL.app0 ?_ | skip
    by_cases hend : l.length = 1 + n0 + n1 + n2
    · rw [show (PR.mk 0 (l.drop (1 + n0 + n1 + n2))).fin = 0 from by rw [List.drop_eq_nil_of_le (by omega)]; rfl]
      obtain ⟨gs, hgs⟩ : ∃ gs : List Fl, gs = [⟨q, 0, a, tpart l (1) n0, n0, m0⟩, ⟨q, 1, b, tpart l (1 + n0) n1, n1, m1⟩, ⟨q, 2, y, tpart l (1 + n0 + n1) n2, n2, m2⟩] := ⟨_, rfl⟩
      have hrow : fs.flatMap flC = gs.flatMap flC := by rw [hfs, hgs]; rfl
      have hgl : gs.length = 3 := by rw [hgs]; rfl
      have hgo : gs.all Fl.ok = true ↔ good3 l kind n0 n1 n2 m0 m1 m2 := by
        rw [hgs]
        simp only [List.all_cons, List.all_nil, Fl.ok, Bool.and_true, Bool.and_eq_true, decide_eq_true_eq]
        unfold good3
        have hp0 := tpart_length l (1) n0 (by omega)
        have hp1 := tpart_length l (1 + n0) n1 (by omega)
        have hp2 := tpart_length l (1 + n0 + n1) n2 (by omega)
        constructor
        · rintro ⟨⟨_, g0⟩, ⟨_, g1⟩, ⟨_, g2⟩⟩
          exact ⟨hend, hkd, g0, g1, g2⟩
        · rintro ⟨_, _, g0, g1, g2⟩
          exact ⟨⟨by omega, g0⟩, ⟨by omega, g1⟩, ⟨by omega, g2⟩⟩
      rw [hrow] at hf
      have hf2 : Sees w S (.row 3 fv gs.length (gs.flatMap flC)) := by rw [hgl]; exact hf
      by_cases hg : good3 l kind n0 n1 n2 m0 m1 m2
      · have hok := hgo.2 hg
        repeat first
          | (apply WL.q; exact rfl; exact rfl; exact rfl; (first | (apply EvW.move; exact rfl) | (apply EvW.cmpF; exact rfl; exact rfl; exact rfl; omega)))
          | refine WL.wanted rfl rfl rfl ?_
        try refine WL.wanted rfl rfl rfl ?_
        apply WL.callA ([])
        · exact rfl
        · exact rfl
        · exact fun w => Try.call49 _ w
        · (focus ((repeat (first | exact TakeL.nil | apply TakeL.cons | exact Take.head | apply Take.tail)); done))
        · exact fun w1 S1 hS1 hs1 ho1 => right_spec fv gs w1 S1 hS1 (hs1 _ hf2) (by rw [hgs]; have hb := ho1 _ _ (show Take (.blk q #[a, b, y] U) _ _ by (focus ((repeat (first | exact Take.head | apply Take.tail)); done))); intro f hf; simp only [List.mem_cons, List.not_mem_nil, or_false] at hf; rcases hf with rfl | rfl | rfl; exact ⟨⟨_, _, hb, rfl⟩, (ho1 _ _ (show Take (.own 3 1 (a) (tpart l (1) n0).length ((tpart l (1) n0).map i64)) _ _ by (focus ((repeat (first | exact Take.head | apply Take.tail)); done)))).own, by rw [tpart_length l _ _ (by omega)]; exact hb0⟩; exact ⟨⟨_, _, hb, rfl⟩, (ho1 _ _ (show Take (.own 3 1 (b) (tpart l (1 + n0) n1).length ((tpart l (1 + n0) n1).map i64)) _ _ by (focus ((repeat (first | exact Take.head | apply Take.tail)); done)))).own, by rw [tpart_length l _ _ (by omega)]; exact hb1⟩; exact ⟨⟨_, _, hb, rfl⟩, (ho1 _ _ (show Take (.own 3 1 (y) (tpart l (1 + n0 + n1) n2).length ((tpart l (1 + n0 + n1) n2).map i64)) _ _ by (focus ((repeat (first | exact Take.head | apply Take.tail)); done)))).own, by rw [tpart_length l _ _ (by omega)]; exact hb2⟩) (by omega)
        rintro _ _ ⟨rfl, rfl⟩
        first | refine WL.app4 ?_ | refine WL.app3 ?_ | refine WL.app2 ?_ | refine WL.app1 ?_ | refine WL.app0 ?_ | skip
        rw [hok]
        repeat first
          | (apply WL.q; exact rfl; exact rfl; exact rfl; (first | (apply EvW.assign; exact rfl) | (apply EvW.pickF; exact rfl; exact rfl) | (apply EvW.notT; exact rfl)))
          | refine WC.seq ?_ | refine WC.region ?_ | refine WL.nil ?_ | refine WE.next ?_ | refine WC.skip ?_ | refine WC.condF rfl ?_ | refine WC.ret ?_ | refine WL.wanted rfl rfl rfl ?_
        refine WE.keep (xs := [.blk q #[a, b, y] U, .own 3 1 (a) (tpart l (1) n0).length ((tpart l (1) n0).map i64), .own 3 1 (b) (tpart l (1 + n0) n1).length ((tpart l (1 + n0) n1).map i64), .own 3 1 (y) (tpart l (1 + n0 + n1) n2).length ((tpart l (1 + n0 + n1) n2).map i64)]) (by (focus ((repeat (first | exact TakeL.nil | apply TakeL.cons | exact Take.head | apply Take.tail)); done))) ?_
        refine WE.ret1 rfl rfl ?_
        exact .inr ⟨rfl, hg, a, b, y, rfl⟩
      · have hok : gs.all Fl.ok = false := by rw [← Bool.not_eq_true]; exact fun h => hg (hgo.1 h)
        repeat first
          | (apply WL.q; exact rfl; exact rfl; exact rfl; (first | (apply EvW.move; exact rfl) | (apply EvW.cmpF; exact rfl; exact rfl; exact rfl; omega)))
          | refine WL.wanted rfl rfl rfl ?_
        try refine WL.wanted rfl rfl rfl ?_
        apply WL.callA ([])
        · exact rfl
        · exact rfl
        · exact fun w => Try.call49 _ w
        · (focus ((repeat (first | exact TakeL.nil | apply TakeL.cons | exact Take.head | apply Take.tail)); done))
        · exact fun w1 S1 hS1 hs1 ho1 => right_spec fv gs w1 S1 hS1 (hs1 _ hf2) (by rw [hgs]; have hb := ho1 _ _ (show Take (.blk q #[a, b, y] U) _ _ by (focus ((repeat (first | exact Take.head | apply Take.tail)); done))); intro f hf; simp only [List.mem_cons, List.not_mem_nil, or_false] at hf; rcases hf with rfl | rfl | rfl; exact ⟨⟨_, _, hb, rfl⟩, (ho1 _ _ (show Take (.own 3 1 (a) (tpart l (1) n0).length ((tpart l (1) n0).map i64)) _ _ by (focus ((repeat (first | exact Take.head | apply Take.tail)); done)))).own, by rw [tpart_length l _ _ (by omega)]; exact hb0⟩; exact ⟨⟨_, _, hb, rfl⟩, (ho1 _ _ (show Take (.own 3 1 (b) (tpart l (1 + n0) n1).length ((tpart l (1 + n0) n1).map i64)) _ _ by (focus ((repeat (first | exact Take.head | apply Take.tail)); done)))).own, by rw [tpart_length l _ _ (by omega)]; exact hb1⟩; exact ⟨⟨_, _, hb, rfl⟩, (ho1 _ _ (show Take (.own 3 1 (y) (tpart l (1 + n0 + n1) n2).length ((tpart l (1 + n0 + n1) n2).map i64)) _ _ by (focus ((repeat (first | exact Take.head | apply Take.tail)); done)))).own, by rw [tpart_length l _ _ (by omega)]; exact hb2⟩) (by omega)
        rintro _ _ ⟨rfl, rfl⟩
        first | refine WL.app4 ?_ | refine WL.app3 ?_ | refine WL.app2 ?_ | refine WL.app1 ?_ | refine WL.app0 ?_ | skip
        rw [hok]
        repeat first
          | (apply WL.q; exact rfl; exact rfl; exact rfl; (first | (apply EvW.assign; exact rfl) | (apply EvW.pickF; exact rfl; exact rfl) | (apply EvW.notF; exact rfl)))
          | refine WC.seq ?_ | refine WC.region ?_ | refine WL.nil ?_ | refine WE.next ?_ | refine WC.condT rfl ?_ | refine WC.ret ?_ | refine WE.passRet ?_ | refine WL.wanted rfl rfl rfl ?_
        refine WE.bare ?_
        refine WE.ret1 rfl rfl ?_
        exact .inl ⟨rfl, rfl, hg⟩
    · have hne : ¬ (PR.mk 0 (l.drop (1 + n0 + n1 + n2))).fin = 0 := by
        unfold PR.fin
        rw [if_pos ⟨rfl, fun h => by have := congrArg List.length h; simp at this; omega⟩]
        decide
      repeat first
        | (apply WL.q; exact rfl; exact rfl; exact rfl; (first | (apply EvW.move; exact rfl) | (apply EvW.assign; exact rfl) | (apply EvW.cmpT; exact rfl; exact rfl; exact rfl; omega) | (apply EvW.pickT; exact rfl; exact rfl)))
        | refine WC.seq ?_ | refine WC.region ?_ | refine WL.nil ?_ | refine WE.next ?_ | refine WC.condT rfl ?_ | refine WC.ret ?_ | refine WE.passRet ?_ | refine WL.unwanted rfl rfl rfl rfl ?_
      refine WE.bare ?_
      refine WE.ret1 rfl rfl ?_
      exact .inl ⟨rfl, rfl, fun h => hend h.1⟩
end Go.Proofs.Ytdnpofigagdabaa
