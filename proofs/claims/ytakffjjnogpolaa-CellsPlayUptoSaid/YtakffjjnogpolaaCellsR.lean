/- CellsPlay: all parts as one, what a memory tells, cuts of both memories. -/
import Derived.Test.YtakffjjnogpolaaCellsQ
namespace Go.Proofs.Ytakffjjnogpolaa
open Go.RowKit Go.BK

theorem flat_take (ps : List (List UInt8)) (k : Nat) (h : k < ps.length) : (ps.take (k + 1)).flatten = (ps.take k).flatten ++ ps.getD k [] := by
  have e : ps.getD k [] = ps[k] := by simp [List.getD_eq_getElem?_getD, List.getElem?_eq_getElem h]
  rw [e, List.take_add_one, List.getElem?_eq_getElem h, List.flatten_append]
  simp only [Option.toList_some, List.flatten_cons, List.flatten_nil, List.append_nil]
theorem flat_le (ps : List (List UInt8)) (k : Nat) : (ps.take k).flatten.length ≤ ps.flatten.length := by
  have h : ps.flatten = (ps.take k).flatten ++ (ps.drop k).flatten := by rw [← List.flatten_append, List.take_append_drop]
  rw [h, List.length_append]; omega
theorem all_spec (v : Value) (ps : List (List UInt8)) (w : World) (S : BSet) (hS : (sepL []).sat S w) (hv : Sees w S (.row 1 v ps.length (ps.map str))) (hl : ps.flatten.length ≤ 1048576) (hpl : ps.length ≤ 1048576) :
    Tri Try.prog 20 #[v] w S fun u A => u = str ps.flatten ∧ A = [] := by
  refine Tri.enter (l := [v]) Try.func20 rfl Try.ntmps20 rfl [(0, v)] (subA rfl) hS ?_
  repeat first
    | (apply WL.q; exact rfl; exact rfl; exact rfl; (first | (apply EvW.move; exact rfl) | (apply EvW.assign; exact rfl) | (apply EvW.lenRow; exact rfl; exact UndC.eq; assumption)))
    | refine WC.seq ?_ | refine WC.region ?_ | refine WL.nil ?_ | refine WE.next ?_ | refine WC.block ?_
  refine WC.ownNil 5 1 ?_
  refine WC.loopK (σ := Nat × Value) [6, 7] (fun s => [(8, i64 s.1), (3, s.2)]) (fun s => [.own 5 1 s.2 ((ps.take s.1).flatten).length (((ps.take s.1).flatten).map byt)]) (fun s => s.1 ≤ ps.length) (fun s => ps.length - s.1) (0, .slice none 0 0) (by (focus ((repeat (first | exact Pick.nil | (apply Pick.cons; exact rfl))); done))) (by (focus ((repeat (first | exact trivial | (refine ⟨rfl, ?_⟩))); done))) (fun _ h => h.keep (by (focus ((repeat (first | exact TakeL.nil | apply TakeL.cons | exact Take.head | apply Take.tail)); done)))) (Nat.zero_le _) (fun s hs => ?_)
  obtain ⟨i, va⟩ := s
  simp only [List.cons_append, List.nil_append] at hs ⊢
  by_cases hlt : (i : Int) < ps.length
  · have hft := flat_take ps i (by omega)
    have h1 := flat_le ps i
    have h2 := flat_le ps (i + 1)
    rw [hft, List.length_append] at h2
    obtain ⟨X, hX⟩ : ∃ X, ps.getD ((i : Nat) : Int).toNat [] = X := ⟨_, rfl⟩
    rw [show ps.getD i [] = X from hX] at hft h2
    repeat first
      | (apply WL.q; exact rfl; exact rfl; exact rfl; (first | (apply EvW.move; exact rfl) | (apply EvW.assign; exact rfl) | (apply EvW.cmpT; exact rfl; exact rfl; exact rfl; omega) | (apply EvW.ldStr; exact rfl; exact ScalC.eq; assumption; omega) | (apply EvW.idxRow; exact rfl; exact rfl; exact UndC.eq; exact SzC.eq; assumption; omega; omega)))
      | refine WC.seq ?_ | refine WC.region ?_ | refine WL.nil ?_ | refine WE.next ?_ | refine WC.block ?_ | refine WC.skip ?_ | refine WC.condT rfl ?_
    rw [hX]
    skip
    try refine WL.wanted rfl rfl rfl ?_
    (apply WL.append; exact rfl; exact rfl; exact rfl; exact UndC.eq; exact SzC.eq; exact ByC.eq; exact ZvC.eq; exact rfl; (first | exact notInt_sl UndC.eq | exact notInt_st UndC.eq); exact rfl; (focus ((repeat (first | exact Take.head | apply Take.tail)); done)))
    · exact adds_str
    · omega
    intro va2
    repeat first
      | (apply WL.q; exact rfl; exact rfl; exact rfl; (first | (apply EvW.move; exact rfl) | (apply EvW.assign; exact rfl) | (apply EvW.arN; exact rfl; exact rfl; exact rfl; refine i64_in ?_ ?_ <;> omega)))
      | refine WC.region ?_ | refine WL.nil ?_ | refine WE.next ?_ | refine WE.out ?_
    exact WE.again (s := (i, va)) ((i + 1, va2)) (by simp only []; omega) (by (focus ((repeat (first | exact trivial | (refine ⟨rfl, ?_⟩))); done))) (fun _ h => (by (try simp only []); rw [hft, List.length_append, List.map_append]; exact h.keep (by (focus ((repeat (first | exact TakeL.nil | apply TakeL.cons | exact Take.head | apply Take.tail)); done))))) (by (try simp only []); omega)
  · obtain rfl : i = ps.length := by omega
    rw [List.take_length]
    repeat first
      | (apply WL.q; exact rfl; exact rfl; exact rfl; (first | (apply EvW.move; exact rfl) | (apply EvW.assign; exact rfl) | (apply EvW.cmpF; exact rfl; exact rfl; exact rfl; omega) | (apply EvW.strOwn; exact rfl; exact UndC.eq; exact UndC.eq; exact UndC.eq; (focus ((repeat (first | exact Take.head | apply Take.tail)); done)))))
      | refine WC.seq ?_ | refine WC.region ?_ | refine WL.nil ?_ | refine WE.next ?_ | refine WC.exit ?_ | refine WE.pass ?_ | refine WE.hit ?_ | refine WC.condF rfl ?_ | refine WC.ret ?_
    refine WE.bare ?_
    refine WE.ret1 rfl rfl ?_
    exact ⟨rfl, rfl⟩
theorem rbareO_spec (r : Nat) (bv wv cv : Value) (pgs : List Pg) (m : Mem) (K : Nat) (d : Bool) (p : Int) (w : World) (S : BSet) (hS : (sepL [.blk r #[bv, wv, cv, i64 (m).ar, i64 (m).ac, .bool d] 59, .own 31 1 bv 24 ((pgs).map pgV), sepL ((pgs).map (pgH 5))]).sat S w) (hm : m.wf K) (hP : PgOk pgs m) (hd : m.off = d) :
    Tri Try.prog 34 #[ptr r 0, i64 p] w S fun u A => u = i64 (m.bare p) ∧ A = [.blk r #[bv, wv, cv, i64 (m).ar, i64 (m).ac, .bool d] 59, .own 31 1 bv 24 ((pgs).map pgV), sepL ((pgs).map (pgH 5))] := by
  subst hd
  exact rbare_spec r bv wv cv pgs m K p w S hS hm hP
theorem told_spec (b : Nat) (o : Option Nat) (r : Nat) (bv wv cv : Value) (pgs : List Pg) (m : Mem) (K : Nat) (d : Bool) (p : Int) (w : World) (S : BSet) (hS : (sepL [.blk b (Value.map (o) :: i64 (m).ar :: i64 (m).ac :: Value.bool (m).off :: ((m).pages.map str ++ (m).worn.map i64)).toArray 41, .blk r #[bv, wv, cv, i64 (m).ar, i64 (m).ac, .bool d] 59, .own 31 1 bv 24 ((pgs).map pgV), sepL ((pgs).map (pgH 5)), .own 3 1 wv 24 ((m).worn.map i64)]).sat S w) (hm : m.wf K) (hP : PgOk pgs m) (hd : m.off = d) :
    Tri Try.prog 25 #[ptr b 0, ptr r 0, i64 p] w S fun u A => u = .bool true ∧ A = [.blk b (Value.map (o) :: i64 (m).ar :: i64 (m).ac :: Value.bool (m).off :: ((m).pages.map str ++ (m).worn.map i64)).toArray 41, .blk r #[bv, wv, cv, i64 (m).ar, i64 (m).ac, .bool d] 59, .own 31 1 bv 24 ((pgs).map pgV), sepL ((pgs).map (pgH 5)), .own 3 1 wv 24 ((m).worn.map i64)] := by
  refine Tri.enter (l := [ptr b 0, ptr r 0, i64 p]) Try.func25 rfl Try.ntmps25 rfl [(0, ptr b 0), (1, ptr r 0), (2, i64 p)] (subA rfl) hS ?_
  have hwl := hm.wl
  by_cases h0 : 0 ≤ p
  · by_cases h1 : p < 24
    · have hw : m.worn' p = m.worn.getD p.toNat 0 := by unfold Mem.worn'; rw [if_neg (by omega)]
      cases d with
      | true =>
        repeat first
          | (apply WL.q; exact rfl; exact rfl; exact rfl; (first | (apply EvW.move; exact rfl) | (apply EvW.assign; exact rfl) | (apply EvW.nilPtr; exact rfl) | (apply EvW.fieldAddr0; exact rfl; exact FldC.eq) | (apply EvW.load; exact rfl; exact ScalC.eq; (focus ((repeat (first | exact Take.head | apply Take.tail)); done)); exact rfl) | (apply EvW.cmpT; exact rfl; exact rfl; exact rfl; omega) | (apply EvW.pickT; exact rfl; exact rfl) | (apply EvW.idxOwn; exact rfl; exact rfl; exact UndC.eq; exact SzC.eq; (focus ((repeat (first | exact Take.head | apply Take.tail)); done)); omega; omega) | (apply EvW.ldIntOwn; exact rfl; exact ScalC.eq; (focus ((repeat (first | exact Take.head | apply Take.tail)); done)); omega)))
          | refine WC.seq ?_ | refine WC.region ?_ | refine WL.nil ?_ | refine WE.next ?_ | refine WC.condT rfl ?_ | refine WL.wanted rfl rfl rfl ?_
        repeat refine WC.seq ?_
        refine WC.keep (xs := [.blk b (Value.map (o) :: i64 (m).ar :: i64 (m).ac :: Value.bool (m).off :: ((m).pages.map str ++ (m).worn.map i64)).toArray 41, .blk r #[bv, wv, cv, i64 (m).ar, i64 (m).ac, .bool true] 59, .own 31 1 bv 24 ((pgs).map pgV), sepL ((pgs).map (pgH 5)), .own 3 1 wv 24 ((m).worn.map i64)]) (by (focus ((repeat (first | exact TakeL.nil | apply TakeL.cons | exact Take.head | apply Take.tail)); done))) ?_
        apply WC.par _ (fun c : Ch => [.blk b (Value.map (o) :: i64 (m).ar :: i64 (m).ac :: Value.bool (m).off :: ((m).pages.map str ++ (m).worn.map i64)).toArray 41, .blk b (Value.map (o) :: i64 (m).ar :: i64 (m).ac :: Value.bool (m).off :: ((m).pages.map str ++ (m).worn.map i64)).toArray 41, .blk b (Value.map (o) :: i64 (m).ar :: i64 (m).ac :: Value.bool (m).off :: ((m).pages.map str ++ (m).worn.map i64)).toArray 41, .blk b (Value.map (o) :: i64 (m).ar :: i64 (m).ac :: Value.bool (m).off :: ((m).pages.map str ++ (m).worn.map i64)).toArray 41, .blk b (Value.map (o) :: i64 (m).ar :: i64 (m).ac :: Value.bool (m).off :: ((m).pages.map str ++ (m).worn.map i64)).toArray 41, .blk r #[bv, wv, cv, i64 (m).ar, i64 (m).ac, .bool true] 59, .blk r #[bv, wv, cv, i64 (m).ar, i64 (m).ac, .bool true] 59, .own 31 1 bv 24 ((pgs).map pgV), .own 31 1 bv 24 ((pgs).map pgV), sepL ((pgs).map (pgH 5)), sepL ((pgs).map (pgH 5)), .own 3 1 wv 24 ((m).worn.map i64)]) [none, some 3, some 13, some 23, some 32, none, some 26, none, some 26, none, some 26, none] [some 3, some 13, some 23, some 32, none, some 26, none, some 26, none, some 26, none, none] [] Try.mixed
        · (focus ((repeat (first | exact Restr.nil | (apply Restr.keep; exact rfl; exact rfl) | (apply Restr.drop; exact rfl))); done))
        · intro c; exact (by (focus ((repeat (first | exact SelT.nil | apply SelT.yes | apply SelT.no)); done)))
        · exact rfl
        · decide +kernel
        · decide +kernel
        · intro c
          (apply Par.quiet _ [true, false, false, false, false, true, false, true, false, true, false, true]; exact rfl; decide +kernel; exact rfl; intro R; refine ⟨_, (by (focus ((repeat (first | exact SelT.nil | apply SelT.yes | apply SelT.no)); done))), ?_⟩;
               (first | (apply EvW.move; exact rfl)))
          (apply Par.quiet _ [true, false, false, false, false, true, false, true, false, true, false, true]; exact rfl; decide +kernel; exact rfl; intro R; refine ⟨_, (by (focus ((repeat (first | exact SelT.nil | apply SelT.yes | apply SelT.no)); done))), ?_⟩;
               (first | (apply EvW.nilPtr; exact rfl)))
          (apply Par.quiet _ [true, false, false, false, false, true, false, true, false, true, false, true]; exact rfl; decide +kernel; exact rfl; intro R; refine ⟨_, (by (focus ((repeat (first | exact SelT.nil | apply SelT.yes | apply SelT.no)); done))), ?_⟩;
               (first | (apply EvW.fieldAddr0; exact rfl; exact FldC.eq)))
          apply Par.eff _ [true, false, false, false, false, false, false, false, false, false, false, false] [false, true, false, false, false, false, false, false, false, false, false, false] [false, false, false, false, false, true, false, true, false, true, false, true]
          · exact rfl
          · exact rfl
          · decide +kernel
          · intro R
            refine ⟨_, _, _, (by (focus ((repeat (first | exact SelT.nil | apply SelT.yes | apply SelT.no)); done))), (by (focus ((repeat (first | exact SelT.nil | apply SelT.yes | apply SelT.no)); done))), (by (focus ((repeat (first | exact SelT.nil | apply SelT.yes | apply SelT.no)); done))), ?_⟩
            apply EffW.callT
            · exact rfl
            · exact fun w1 S1 hS1 hs1 ho1 => down_spec b o m true w1 S1 hS1 hd
            · exact fun w => Try.call17 _ w
            · (focus ((repeat (first | exact TakeL.nil | apply TakeL.cons | exact Take.head | apply Take.tail)); done))
            · exact fun _ _ h => h
            · exact fun _ h => TakeT.st (by (focus ((repeat (first | exact TakeT.tail | apply TakeT.cons | exact Take.head | apply Take.tail | apply TakeT.drop)); done))) h
          (apply Par.quiet _ [false, false, false, false, false, true, false, true, false, true, false, true]; exact rfl; decide +kernel; exact rfl; intro R; refine ⟨_, (by (focus ((repeat (first | exact SelT.nil | apply SelT.yes | apply SelT.no)); done))), ?_⟩;
               (first | (apply EvW.move; exact rfl)))
          (apply Par.quiet _ [false, false, false, false, false, true, false, true, false, true, false, true]; exact rfl; decide +kernel; exact rfl; intro R; refine ⟨_, (by (focus ((repeat (first | exact SelT.nil | apply SelT.yes | apply SelT.no)); done))), ?_⟩;
               (first | (apply EvW.nilPtr; exact rfl)))
          (apply Par.quiet _ [false, false, false, false, false, true, false, true, false, true, false, true]; exact rfl; decide +kernel; exact rfl; intro R; refine ⟨_, (by (focus ((repeat (first | exact SelT.nil | apply SelT.yes | apply SelT.no)); done))), ?_⟩;
               (first | (apply EvW.fieldAddr0; exact rfl; exact FldC.eq)))
          (apply Par.quiet _ [false, false, false, false, false, true, false, true, false, true, false, true]; exact rfl; decide +kernel; exact rfl; intro R; refine ⟨_, (by (focus ((repeat (first | exact SelT.nil | apply SelT.yes | apply SelT.no)); done))), ?_⟩;
               (first | (apply EvW.load; exact rfl; exact ScalC.eq; (focus ((repeat (first | exact Take.head | apply Take.tail)); done)); exact rfl)))
          (apply Par.quiet _ [false, true, false, false, false, true, false, true, false, true, false, true]; exact rfl; decide +kernel; exact rfl; intro R; refine ⟨_, (by (focus ((repeat (first | exact SelT.nil | apply SelT.yes | apply SelT.no)); done))), ?_⟩;
               (first | (apply EvW.beqS; exact rfl; exact rfl; exact UndC.eq)))
          (apply Par.quiet _ [false, true, false, false, false, true, false, true, false, true, false, true]; exact rfl; decide +kernel; exact rfl; intro R; refine ⟨_, (by (focus ((repeat (first | exact SelT.nil | apply SelT.yes | apply SelT.no)); done))), ?_⟩;
               (first | (apply EvW.move; exact rfl)))
          first
            | (apply Par.skip; exact rfl; decide +kernel; exact rfl)
            | (apply Par.quiet _ [false, true, false, false, false, true, false, true, false, true, false, true]; exact rfl; decide +kernel; exact rfl; intro R; refine ⟨_, (by (focus ((repeat (first | exact SelT.nil | apply SelT.yes | apply SelT.no)); done))), ?_⟩;
               (first | (apply EvW.move; exact rfl)))
          first
            | (apply Par.skip; exact rfl; decide +kernel; exact rfl)
            | (apply Par.quiet _ [false, true, false, false, false, true, false, true, false, true, false, true]; exact rfl; decide +kernel; exact rfl; intro R; refine ⟨_, (by (focus ((repeat (first | exact SelT.nil | apply SelT.yes | apply SelT.no)); done))), ?_⟩;
               (first | (apply EvW.nilPtr; exact rfl)))
          first
            | (apply Par.skip; exact rfl; decide +kernel; exact rfl)
            | (apply Par.quiet _ [false, true, false, false, false, true, false, true, false, true, false, true]; exact rfl; decide +kernel; exact rfl; intro R; refine ⟨_, (by (focus ((repeat (first | exact SelT.nil | apply SelT.yes | apply SelT.no)); done))), ?_⟩;
               (first | (apply EvW.fieldAddr0; exact rfl; exact FldC.eq)))
          apply Par.eff _ [false, true, false, false, false, false, false, false, false, false, false, false] [false, false, true, false, false, false, false, false, false, false, false, false] [false, false, false, false, false, true, false, true, false, true, false, true]
          · exact rfl
          · exact rfl
          · decide +kernel
          · intro R
            refine ⟨_, _, _, (by (focus ((repeat (first | exact SelT.nil | apply SelT.yes | apply SelT.no)); done))), (by (focus ((repeat (first | exact SelT.nil | apply SelT.yes | apply SelT.no)); done))), (by (focus ((repeat (first | exact SelT.nil | apply SelT.yes | apply SelT.no)); done))), ?_⟩
            apply EffW.callT
            · exact rfl
            · exact fun w1 S1 hS1 hs1 ho1 => acts_spec b o m w1 S1 hS1
            · exact fun w => Try.call26 _ w
            · (focus ((repeat (first | exact TakeL.nil | apply TakeL.cons | exact Take.head | apply Take.tail)); done))
            · exact fun _ _ h => h
            · exact fun _ h => TakeT.st (by (focus ((repeat (first | exact TakeT.tail | apply TakeT.cons | exact Take.head | apply Take.tail | apply TakeT.drop)); done))) h
          first
            | (apply Par.skip; exact rfl; decide +kernel; exact rfl)
            | (apply Par.quiet _ [false, false, false, false, false, true, false, true, false, true, false, true]; exact rfl; decide +kernel; exact rfl; intro R; refine ⟨_, (by (focus ((repeat (first | exact SelT.nil | apply SelT.yes | apply SelT.no)); done))), ?_⟩;
               (first | (apply EvW.move; exact rfl)))
          first
            | (apply Par.skip; exact rfl; decide +kernel; exact rfl)
            | (apply Par.quiet _ [false, false, false, false, false, true, false, true, false, true, false, true]; exact rfl; decide +kernel; exact rfl; intro R; refine ⟨_, (by (focus ((repeat (first | exact SelT.nil | apply SelT.yes | apply SelT.no)); done))), ?_⟩;
               (first | (apply EvW.nilPtr; exact rfl)))
          first
            | (apply Par.skip; exact rfl; decide +kernel; exact rfl)
            | (apply Par.quiet _ [false, false, false, false, false, true, false, true, false, true, false, true]; exact rfl; decide +kernel; exact rfl; intro R; refine ⟨_, (by (focus ((repeat (first | exact SelT.nil | apply SelT.yes | apply SelT.no)); done))), ?_⟩;
               (first | (apply EvW.fieldAddr0; exact rfl; exact FldC.eq)))
          first
            | (apply Par.skip; exact rfl; decide +kernel; exact rfl)
            | (apply Par.quiet _ [false, false, false, false, false, true, false, true, false, true, false, true]; exact rfl; decide +kernel; exact rfl; intro R; refine ⟨_, (by (focus ((repeat (first | exact SelT.nil | apply SelT.yes | apply SelT.no)); done))), ?_⟩;
               (first | (apply EvW.load; exact rfl; exact ScalC.eq; (focus ((repeat (first | exact Take.head | apply Take.tail)); done)); exact rfl)))
          first
            | (apply Par.skip; exact rfl; decide +kernel; exact rfl)
            | (apply Par.quiet _ [false, false, true, false, false, true, false, true, false, true, false, true]; exact rfl; decide +kernel; exact rfl; intro R; refine ⟨_, (by (focus ((repeat (first | exact SelT.nil | apply SelT.yes | apply SelT.no)); done))), ?_⟩;
               (first | (apply EvW.cmpT; exact rfl; exact rfl; exact rfl; omega)))
          (apply Par.quiet _ [false, false, true, false, false, true, false, true, false, true, false, true]; exact rfl; decide +kernel; exact rfl; intro R; refine ⟨_, (by (focus ((repeat (first | exact SelT.nil | apply SelT.yes | apply SelT.no)); done))), ?_⟩;
               (first | (apply EvW.pickT; exact rfl; exact rfl)))
          (apply Par.quiet _ [false, false, true, false, false, true, false, true, false, true, false, true]; exact rfl; decide +kernel; exact rfl; intro R; refine ⟨_, (by (focus ((repeat (first | exact SelT.nil | apply SelT.yes | apply SelT.no)); done))), ?_⟩;
               (first | (apply EvW.move; exact rfl)))
          first
            | (apply Par.skip; exact rfl; decide +kernel; exact rfl)
            | (apply Par.quiet _ [false, false, true, false, false, true, false, true, false, true, false, true]; exact rfl; decide +kernel; exact rfl; intro R; refine ⟨_, (by (focus ((repeat (first | exact SelT.nil | apply SelT.yes | apply SelT.no)); done))), ?_⟩;
               (first | (apply EvW.move; exact rfl)))
          first
            | (apply Par.skip; exact rfl; decide +kernel; exact rfl)
            | (apply Par.quiet _ [false, false, true, false, false, true, false, true, false, true, false, true]; exact rfl; decide +kernel; exact rfl; intro R; refine ⟨_, (by (focus ((repeat (first | exact SelT.nil | apply SelT.yes | apply SelT.no)); done))), ?_⟩;
               (first | (apply EvW.move; exact rfl)))
          apply Par.eff _ [false, false, true, false, false, false, false, false, false, false, false, false] [false, false, false, true, false, false, false, false, false, false, false, false] [false, false, false, false, false, true, false, true, false, true, false, true]
          · exact rfl
          · exact rfl
          · decide +kernel
          · intro R
            refine ⟨_, _, _, (by (focus ((repeat (first | exact SelT.nil | apply SelT.yes | apply SelT.no)); done))), (by (focus ((repeat (first | exact SelT.nil | apply SelT.yes | apply SelT.no)); done))), (by (focus ((repeat (first | exact SelT.nil | apply SelT.yes | apply SelT.no)); done))), ?_⟩
            apply EffW.callT
            · exact rfl
            · exact fun w1 S1 hS1 hs1 ho1 => bareOf_spec b o m K p w1 S1 hS1 hm
            · exact fun w => Try.call13 _ w
            · (focus ((repeat (first | exact TakeL.nil | apply TakeL.cons | exact Take.head | apply Take.tail)); done))
            · exact fun _ _ h => h
            · exact fun _ h => TakeT.st (by (focus ((repeat (first | exact TakeT.tail | apply TakeT.cons | exact Take.head | apply Take.tail | apply TakeT.drop)); done))) h
          first
            | (apply Par.skip; exact rfl; decide +kernel; exact rfl)
            | (apply Par.quiet _ [false, false, false, false, false, true, false, true, false, true, false, true]; exact rfl; decide +kernel; exact rfl; intro R; refine ⟨_, (by (focus ((repeat (first | exact SelT.nil | apply SelT.yes | apply SelT.no)); done))), ?_⟩;
               (first | (apply EvW.move; exact rfl)))
          first
            | (apply Par.skip; exact rfl; decide +kernel; exact rfl)
            | (apply Par.quiet _ [false, false, false, false, false, true, false, true, false, true, false, true]; exact rfl; decide +kernel; exact rfl; intro R; refine ⟨_, (by (focus ((repeat (first | exact SelT.nil | apply SelT.yes | apply SelT.no)); done))), ?_⟩;
               (first | (apply EvW.move; exact rfl)))
          apply Par.eff _ [false, false, false, false, false, true, false, true, false, true, false, false] [false, false, false, false, false, false, true, false, true, false, true, false] [false, false, false, true, false, false, false, false, false, false, false, true]
          · exact rfl
          · exact rfl
          · decide +kernel
          · intro R
            refine ⟨_, _, _, (by (focus ((repeat (first | exact SelT.nil | apply SelT.yes | apply SelT.no)); done))), (by (focus ((repeat (first | exact SelT.nil | apply SelT.yes | apply SelT.no)); done))), (by (focus ((repeat (first | exact SelT.nil | apply SelT.yes | apply SelT.no)); done))), ?_⟩
            apply EffW.callT
            · exact rfl
            · exact fun w1 S1 hS1 hs1 ho1 => rbareO_spec r bv wv cv pgs m K true p w1 S1 hS1 hm hP hd
            · exact fun w => Try.call34 _ w
            · (focus ((repeat (first | exact TakeL.nil | apply TakeL.cons | exact Take.head | apply Take.tail)); done))
            · exact fun _ _ h => h
            · exact fun _ h => TakeT.st (by (focus ((repeat (first | exact TakeT.tail | apply TakeT.cons | exact Take.head | apply Take.tail | apply TakeT.drop)); done))) h
          first
            | (apply Par.skip; exact rfl; decide +kernel; exact rfl)
            | (apply Par.quiet _ [false, false, false, true, false, false, true, false, true, false, true, true]; exact rfl; decide +kernel; exact rfl; intro R; refine ⟨_, (by (focus ((repeat (first | exact SelT.nil | apply SelT.yes | apply SelT.no)); done))), ?_⟩;
               (first | (apply EvW.cmpT; exact rfl; exact rfl; exact rfl; omega)))
          (apply Par.quiet _ [false, false, false, true, false, false, true, false, true, false, true, true]; exact rfl; decide +kernel; exact rfl; intro R; refine ⟨_, (by (focus ((repeat (first | exact SelT.nil | apply SelT.yes | apply SelT.no)); done))), ?_⟩;
               (first | (apply EvW.pickT; exact rfl; exact rfl)))
          (apply Par.quiet _ [false, false, false, true, false, false, true, false, true, false, true, true]; exact rfl; decide +kernel; exact rfl; intro R; refine ⟨_, (by (focus ((repeat (first | exact SelT.nil | apply SelT.yes | apply SelT.no)); done))), ?_⟩;
               (first | (apply EvW.move; exact rfl)))
          first
            | (apply Par.skip; exact rfl; decide +kernel; exact rfl)
            | (apply Par.quiet _ [false, false, false, true, false, false, true, false, true, false, true, true]; exact rfl; decide +kernel; exact rfl; intro R; refine ⟨_, (by (focus ((repeat (first | exact SelT.nil | apply SelT.yes | apply SelT.no)); done))), ?_⟩;
               (first | (apply EvW.move; exact rfl)))
          first
            | (apply Par.skip; exact rfl; decide +kernel; exact rfl)
            | (apply Par.quiet _ [false, false, false, true, false, false, true, false, true, false, true, true]; exact rfl; decide +kernel; exact rfl; intro R; refine ⟨_, (by (focus ((repeat (first | exact SelT.nil | apply SelT.yes | apply SelT.no)); done))), ?_⟩;
               (first | (apply EvW.move; exact rfl)))
          apply Par.eff _ [false, false, false, true, false, false, false, false, false, false, false, false] [false, false, false, false, true, false, false, false, false, false, false, false] [false, false, false, false, false, false, true, false, true, false, true, true]
          · exact rfl
          · exact rfl
          · decide +kernel
          · intro R
            refine ⟨_, _, _, (by (focus ((repeat (first | exact SelT.nil | apply SelT.yes | apply SelT.no)); done))), (by (focus ((repeat (first | exact SelT.nil | apply SelT.yes | apply SelT.no)); done))), (by (focus ((repeat (first | exact SelT.nil | apply SelT.yes | apply SelT.no)); done))), ?_⟩
            apply EffW.callT
            · exact rfl
            · exact fun w1 S1 hS1 hs1 ho1 => (by have h := worn_spec b o m K p w1 S1 hS1 hm; rw [hw] at h; exact h)
            · exact fun w => Try.call27 _ w
            · (focus ((repeat (first | exact TakeL.nil | apply TakeL.cons | exact Take.head | apply Take.tail)); done))
            · exact fun _ _ h => h
            · exact fun _ h => TakeT.st (by (focus ((repeat (first | exact TakeT.tail | apply TakeT.cons | exact Take.head | apply Take.tail | apply TakeT.drop)); done))) h
          first
            | (apply Par.skip; exact rfl; decide +kernel; exact rfl)
            | (apply Par.quiet _ [false, false, false, false, false, false, true, false, true, false, true, true]; exact rfl; decide +kernel; exact rfl; intro R; refine ⟨_, (by (focus ((repeat (first | exact SelT.nil | apply SelT.yes | apply SelT.no)); done))), ?_⟩;
               (first | (apply EvW.move; exact rfl)))
          first
            | (apply Par.skip; exact rfl; decide +kernel; exact rfl)
            | (apply Par.quiet _ [false, false, false, false, true, false, true, false, true, false, true, true]; exact rfl; decide +kernel; exact rfl; intro R; refine ⟨_, (by (focus ((repeat (first | exact SelT.nil | apply SelT.yes | apply SelT.no)); done))), ?_⟩;
               (first | (apply EvW.cmpT; exact rfl; exact rfl; exact rfl; omega)))
          (apply Par.quiet _ [false, false, false, false, true, false, true, false, true, false, true, true]; exact rfl; decide +kernel; exact rfl; intro R; refine ⟨_, (by (focus ((repeat (first | exact SelT.nil | apply SelT.yes | apply SelT.no)); done))), ?_⟩;
               (first | (apply EvW.pickT; exact rfl; exact rfl)))
          (apply Par.quiet _ [false, false, false, false, true, false, true, false, true, false, true, true]; exact rfl; decide +kernel; exact rfl; intro R; refine ⟨_, (by (focus ((repeat (first | exact SelT.nil | apply SelT.yes | apply SelT.no)); done))), ?_⟩;
               (first | (apply EvW.assign; exact rfl)))
          exact Par.nil
        · repeat (first | exact AllN.nil | (apply AllN.cons; (intro c x; (repeat (first | exact IndA.nil | (apply IndA.skip; decide +kernel) | apply IndA.same))))) 
        · repeat (first | exact AllN.nil | (apply AllN.cons; (intro c x; (repeat (first | exact IndT.nil | (apply IndT.skip; decide +kernel) | apply IndT.same))))) 
        · exact fun _ => rfl
        intro c
        refine ⟨_, (by (focus ((repeat (first | exact SelT.nil | apply SelT.yes | apply SelT.no)); done))), ?_⟩
        apply WE.writ
        · (focus ((repeat (first | exact Writ.nil | apply Writ.some | apply Writ.none)); done))
        repeat first
          | refine WE.next ?_ | refine WC.ret ?_
        refine WE.ret1 rfl rfl ?_
        exact ⟨rfl, rfl⟩
      | false =>
        repeat first
          | (apply WL.q; exact rfl; exact rfl; exact rfl; (first | (apply EvW.move; exact rfl) | (apply EvW.assign; exact rfl) | (apply EvW.nilPtr; exact rfl) | (apply EvW.fieldAddr0; exact rfl; exact FldC.eq) | (apply EvW.load; exact rfl; exact ScalC.eq; (focus ((repeat (first | exact Take.head | apply Take.tail)); done)); exact rfl) | (apply EvW.cmpT; exact rfl; exact rfl; exact rfl; omega) | (apply EvW.pickT; exact rfl; exact rfl) | (apply EvW.idxOwn; exact rfl; exact rfl; exact UndC.eq; exact SzC.eq; (focus ((repeat (first | exact Take.head | apply Take.tail)); done)); omega; omega) | (apply EvW.ldIntOwn; exact rfl; exact ScalC.eq; (focus ((repeat (first | exact Take.head | apply Take.tail)); done)); omega)))
          | refine WC.seq ?_ | refine WC.region ?_ | refine WL.nil ?_ | refine WE.next ?_ | refine WC.condT rfl ?_ | refine WL.wanted rfl rfl rfl ?_
        repeat refine WC.seq ?_
        refine WC.keep (xs := [.blk b (Value.map (o) :: i64 (m).ar :: i64 (m).ac :: Value.bool (m).off :: ((m).pages.map str ++ (m).worn.map i64)).toArray 41, .blk r #[bv, wv, cv, i64 (m).ar, i64 (m).ac, .bool false] 59, .own 31 1 bv 24 ((pgs).map pgV), sepL ((pgs).map (pgH 5)), .own 3 1 wv 24 ((m).worn.map i64)]) (by (focus ((repeat (first | exact TakeL.nil | apply TakeL.cons | exact Take.head | apply Take.tail)); done))) ?_
        apply WC.par _ (fun c : Ch => [.blk b (Value.map (o) :: i64 (m).ar :: i64 (m).ac :: Value.bool (m).off :: ((m).pages.map str ++ (m).worn.map i64)).toArray 41, .blk b (Value.map (o) :: i64 (m).ar :: i64 (m).ac :: Value.bool (m).off :: ((m).pages.map str ++ (m).worn.map i64)).toArray 41, .blk b (Value.map (o) :: i64 (m).ar :: i64 (m).ac :: Value.bool (m).off :: ((m).pages.map str ++ (m).worn.map i64)).toArray 41, .blk b (Value.map (o) :: i64 (m).ar :: i64 (m).ac :: Value.bool (m).off :: ((m).pages.map str ++ (m).worn.map i64)).toArray 41, .blk b (Value.map (o) :: i64 (m).ar :: i64 (m).ac :: Value.bool (m).off :: ((m).pages.map str ++ (m).worn.map i64)).toArray 41, .blk r #[bv, wv, cv, i64 (m).ar, i64 (m).ac, .bool false] 59, .blk r #[bv, wv, cv, i64 (m).ar, i64 (m).ac, .bool false] 59, .own 31 1 bv 24 ((pgs).map pgV), .own 31 1 bv 24 ((pgs).map pgV), sepL ((pgs).map (pgH 5)), sepL ((pgs).map (pgH 5)), .own 3 1 wv 24 ((m).worn.map i64)]) [none, some 3, some 13, some 23, some 32, none, some 26, none, some 26, none, some 26, none] [some 3, some 13, some 23, some 32, none, some 26, none, some 26, none, some 26, none, none] [] Try.mixed
        · (focus ((repeat (first | exact Restr.nil | (apply Restr.keep; exact rfl; exact rfl) | (apply Restr.drop; exact rfl))); done))
        · intro c; exact (by (focus ((repeat (first | exact SelT.nil | apply SelT.yes | apply SelT.no)); done)))
        · exact rfl
        · decide +kernel
        · decide +kernel
        · intro c
          (apply Par.quiet _ [true, false, false, false, false, true, false, true, false, true, false, true]; exact rfl; decide +kernel; exact rfl; intro R; refine ⟨_, (by (focus ((repeat (first | exact SelT.nil | apply SelT.yes | apply SelT.no)); done))), ?_⟩;
               (first | (apply EvW.move; exact rfl)))
          (apply Par.quiet _ [true, false, false, false, false, true, false, true, false, true, false, true]; exact rfl; decide +kernel; exact rfl; intro R; refine ⟨_, (by (focus ((repeat (first | exact SelT.nil | apply SelT.yes | apply SelT.no)); done))), ?_⟩;
               (first | (apply EvW.nilPtr; exact rfl)))
          (apply Par.quiet _ [true, false, false, false, false, true, false, true, false, true, false, true]; exact rfl; decide +kernel; exact rfl; intro R; refine ⟨_, (by (focus ((repeat (first | exact SelT.nil | apply SelT.yes | apply SelT.no)); done))), ?_⟩;
               (first | (apply EvW.fieldAddr0; exact rfl; exact FldC.eq)))
          apply Par.eff _ [true, false, false, false, false, false, false, false, false, false, false, false] [false, true, false, false, false, false, false, false, false, false, false, false] [false, false, false, false, false, true, false, true, false, true, false, true]
          · exact rfl
          · exact rfl
          · decide +kernel
          · intro R
            refine ⟨_, _, _, (by (focus ((repeat (first | exact SelT.nil | apply SelT.yes | apply SelT.no)); done))), (by (focus ((repeat (first | exact SelT.nil | apply SelT.yes | apply SelT.no)); done))), (by (focus ((repeat (first | exact SelT.nil | apply SelT.yes | apply SelT.no)); done))), ?_⟩
            apply EffW.callT
            · exact rfl
            · exact fun w1 S1 hS1 hs1 ho1 => down_spec b o m false w1 S1 hS1 hd
            · exact fun w => Try.call17 _ w
            · (focus ((repeat (first | exact TakeL.nil | apply TakeL.cons | exact Take.head | apply Take.tail)); done))
            · exact fun _ _ h => h
            · exact fun _ h => TakeT.st (by (focus ((repeat (first | exact TakeT.tail | apply TakeT.cons | exact Take.head | apply Take.tail | apply TakeT.drop)); done))) h
          (apply Par.quiet _ [false, false, false, false, false, true, false, true, false, true, false, true]; exact rfl; decide +kernel; exact rfl; intro R; refine ⟨_, (by (focus ((repeat (first | exact SelT.nil | apply SelT.yes | apply SelT.no)); done))), ?_⟩;
               (first | (apply EvW.move; exact rfl)))
          (apply Par.quiet _ [false, false, false, false, false, true, false, true, false, true, false, true]; exact rfl; decide +kernel; exact rfl; intro R; refine ⟨_, (by (focus ((repeat (first | exact SelT.nil | apply SelT.yes | apply SelT.no)); done))), ?_⟩;
               (first | (apply EvW.nilPtr; exact rfl)))
          (apply Par.quiet _ [false, false, false, false, false, true, false, true, false, true, false, true]; exact rfl; decide +kernel; exact rfl; intro R; refine ⟨_, (by (focus ((repeat (first | exact SelT.nil | apply SelT.yes | apply SelT.no)); done))), ?_⟩;
               (first | (apply EvW.fieldAddr0; exact rfl; exact FldC.eq)))
          (apply Par.quiet _ [false, false, false, false, false, true, false, true, false, true, false, true]; exact rfl; decide +kernel; exact rfl; intro R; refine ⟨_, (by (focus ((repeat (first | exact SelT.nil | apply SelT.yes | apply SelT.no)); done))), ?_⟩;
               (first | (apply EvW.load; exact rfl; exact ScalC.eq; (focus ((repeat (first | exact Take.head | apply Take.tail)); done)); exact rfl)))
          (apply Par.quiet _ [false, true, false, false, false, true, false, true, false, true, false, true]; exact rfl; decide +kernel; exact rfl; intro R; refine ⟨_, (by (focus ((repeat (first | exact SelT.nil | apply SelT.yes | apply SelT.no)); done))), ?_⟩;
               (first | (apply EvW.beqS; exact rfl; exact rfl; exact UndC.eq)))
          (apply Par.quiet _ [false, true, false, false, false, true, false, true, false, true, false, true]; exact rfl; decide +kernel; exact rfl; intro R; refine ⟨_, (by (focus ((repeat (first | exact SelT.nil | apply SelT.yes | apply SelT.no)); done))), ?_⟩;
               (first | (apply EvW.move; exact rfl)))
          first
            | (apply Par.skip; exact rfl; decide +kernel; exact rfl)
            | (apply Par.quiet _ [false, true, false, false, false, true, false, true, false, true, false, true]; exact rfl; decide +kernel; exact rfl; intro R; refine ⟨_, (by (focus ((repeat (first | exact SelT.nil | apply SelT.yes | apply SelT.no)); done))), ?_⟩;
               (first | (apply EvW.move; exact rfl)))
          first
            | (apply Par.skip; exact rfl; decide +kernel; exact rfl)
            | (apply Par.quiet _ [false, true, false, false, false, true, false, true, false, true, false, true]; exact rfl; decide +kernel; exact rfl; intro R; refine ⟨_, (by (focus ((repeat (first | exact SelT.nil | apply SelT.yes | apply SelT.no)); done))), ?_⟩;
               (first | (apply EvW.nilPtr; exact rfl)))
          first
            | (apply Par.skip; exact rfl; decide +kernel; exact rfl)
            | (apply Par.quiet _ [false, true, false, false, false, true, false, true, false, true, false, true]; exact rfl; decide +kernel; exact rfl; intro R; refine ⟨_, (by (focus ((repeat (first | exact SelT.nil | apply SelT.yes | apply SelT.no)); done))), ?_⟩;
               (first | (apply EvW.fieldAddr0; exact rfl; exact FldC.eq)))
          apply Par.eff _ [false, true, false, false, false, false, false, false, false, false, false, false] [false, false, true, false, false, false, false, false, false, false, false, false] [false, false, false, false, false, true, false, true, false, true, false, true]
          · exact rfl
          · exact rfl
          · decide +kernel
          · intro R
            refine ⟨_, _, _, (by (focus ((repeat (first | exact SelT.nil | apply SelT.yes | apply SelT.no)); done))), (by (focus ((repeat (first | exact SelT.nil | apply SelT.yes | apply SelT.no)); done))), (by (focus ((repeat (first | exact SelT.nil | apply SelT.yes | apply SelT.no)); done))), ?_⟩
            apply EffW.callT
            · exact rfl
            · exact fun w1 S1 hS1 hs1 ho1 => acts_spec b o m w1 S1 hS1
            · exact fun w => Try.call26 _ w
            · (focus ((repeat (first | exact TakeL.nil | apply TakeL.cons | exact Take.head | apply Take.tail)); done))
            · exact fun _ _ h => h
            · exact fun _ h => TakeT.st (by (focus ((repeat (first | exact TakeT.tail | apply TakeT.cons | exact Take.head | apply Take.tail | apply TakeT.drop)); done))) h
          first
            | (apply Par.skip; exact rfl; decide +kernel; exact rfl)
            | (apply Par.quiet _ [false, false, false, false, false, true, false, true, false, true, false, true]; exact rfl; decide +kernel; exact rfl; intro R; refine ⟨_, (by (focus ((repeat (first | exact SelT.nil | apply SelT.yes | apply SelT.no)); done))), ?_⟩;
               (first | (apply EvW.move; exact rfl)))
          first
            | (apply Par.skip; exact rfl; decide +kernel; exact rfl)
            | (apply Par.quiet _ [false, false, false, false, false, true, false, true, false, true, false, true]; exact rfl; decide +kernel; exact rfl; intro R; refine ⟨_, (by (focus ((repeat (first | exact SelT.nil | apply SelT.yes | apply SelT.no)); done))), ?_⟩;
               (first | (apply EvW.nilPtr; exact rfl)))
          first
            | (apply Par.skip; exact rfl; decide +kernel; exact rfl)
            | (apply Par.quiet _ [false, false, false, false, false, true, false, true, false, true, false, true]; exact rfl; decide +kernel; exact rfl; intro R; refine ⟨_, (by (focus ((repeat (first | exact SelT.nil | apply SelT.yes | apply SelT.no)); done))), ?_⟩;
               (first | (apply EvW.fieldAddr0; exact rfl; exact FldC.eq)))
          first
            | (apply Par.skip; exact rfl; decide +kernel; exact rfl)
            | (apply Par.quiet _ [false, false, false, false, false, true, false, true, false, true, false, true]; exact rfl; decide +kernel; exact rfl; intro R; refine ⟨_, (by (focus ((repeat (first | exact SelT.nil | apply SelT.yes | apply SelT.no)); done))), ?_⟩;
               (first | (apply EvW.load; exact rfl; exact ScalC.eq; (focus ((repeat (first | exact Take.head | apply Take.tail)); done)); exact rfl)))
          first
            | (apply Par.skip; exact rfl; decide +kernel; exact rfl)
            | (apply Par.quiet _ [false, false, true, false, false, true, false, true, false, true, false, true]; exact rfl; decide +kernel; exact rfl; intro R; refine ⟨_, (by (focus ((repeat (first | exact SelT.nil | apply SelT.yes | apply SelT.no)); done))), ?_⟩;
               (first | (apply EvW.cmpT; exact rfl; exact rfl; exact rfl; omega)))
          (apply Par.quiet _ [false, false, true, false, false, true, false, true, false, true, false, true]; exact rfl; decide +kernel; exact rfl; intro R; refine ⟨_, (by (focus ((repeat (first | exact SelT.nil | apply SelT.yes | apply SelT.no)); done))), ?_⟩;
               (first | (apply EvW.pickT; exact rfl; exact rfl)))
          (apply Par.quiet _ [false, false, true, false, false, true, false, true, false, true, false, true]; exact rfl; decide +kernel; exact rfl; intro R; refine ⟨_, (by (focus ((repeat (first | exact SelT.nil | apply SelT.yes | apply SelT.no)); done))), ?_⟩;
               (first | (apply EvW.move; exact rfl)))
          first
            | (apply Par.skip; exact rfl; decide +kernel; exact rfl)
            | (apply Par.quiet _ [false, false, true, false, false, true, false, true, false, true, false, true]; exact rfl; decide +kernel; exact rfl; intro R; refine ⟨_, (by (focus ((repeat (first | exact SelT.nil | apply SelT.yes | apply SelT.no)); done))), ?_⟩;
               (first | (apply EvW.move; exact rfl)))
          first
            | (apply Par.skip; exact rfl; decide +kernel; exact rfl)
            | (apply Par.quiet _ [false, false, true, false, false, true, false, true, false, true, false, true]; exact rfl; decide +kernel; exact rfl; intro R; refine ⟨_, (by (focus ((repeat (first | exact SelT.nil | apply SelT.yes | apply SelT.no)); done))), ?_⟩;
               (first | (apply EvW.move; exact rfl)))
          apply Par.eff _ [false, false, true, false, false, false, false, false, false, false, false, false] [false, false, false, true, false, false, false, false, false, false, false, false] [false, false, false, false, false, true, false, true, false, true, false, true]
          · exact rfl
          · exact rfl
          · decide +kernel
          · intro R
            refine ⟨_, _, _, (by (focus ((repeat (first | exact SelT.nil | apply SelT.yes | apply SelT.no)); done))), (by (focus ((repeat (first | exact SelT.nil | apply SelT.yes | apply SelT.no)); done))), (by (focus ((repeat (first | exact SelT.nil | apply SelT.yes | apply SelT.no)); done))), ?_⟩
            apply EffW.callT
            · exact rfl
            · exact fun w1 S1 hS1 hs1 ho1 => bareOf_spec b o m K p w1 S1 hS1 hm
            · exact fun w => Try.call13 _ w
            · (focus ((repeat (first | exact TakeL.nil | apply TakeL.cons | exact Take.head | apply Take.tail)); done))
            · exact fun _ _ h => h
            · exact fun _ h => TakeT.st (by (focus ((repeat (first | exact TakeT.tail | apply TakeT.cons | exact Take.head | apply Take.tail | apply TakeT.drop)); done))) h
          first
            | (apply Par.skip; exact rfl; decide +kernel; exact rfl)
            | (apply Par.quiet _ [false, false, false, false, false, true, false, true, false, true, false, true]; exact rfl; decide +kernel; exact rfl; intro R; refine ⟨_, (by (focus ((repeat (first | exact SelT.nil | apply SelT.yes | apply SelT.no)); done))), ?_⟩;
               (first | (apply EvW.move; exact rfl)))
          first
            | (apply Par.skip; exact rfl; decide +kernel; exact rfl)
            | (apply Par.quiet _ [false, false, false, false, false, true, false, true, false, true, false, true]; exact rfl; decide +kernel; exact rfl; intro R; refine ⟨_, (by (focus ((repeat (first | exact SelT.nil | apply SelT.yes | apply SelT.no)); done))), ?_⟩;
               (first | (apply EvW.move; exact rfl)))
          apply Par.eff _ [false, false, false, false, false, true, false, true, false, true, false, false] [false, false, false, false, false, false, true, false, true, false, true, false] [false, false, false, true, false, false, false, false, false, false, false, true]
          · exact rfl
          · exact rfl
          · decide +kernel
          · intro R
            refine ⟨_, _, _, (by (focus ((repeat (first | exact SelT.nil | apply SelT.yes | apply SelT.no)); done))), (by (focus ((repeat (first | exact SelT.nil | apply SelT.yes | apply SelT.no)); done))), (by (focus ((repeat (first | exact SelT.nil | apply SelT.yes | apply SelT.no)); done))), ?_⟩
            apply EffW.callT
            · exact rfl
            · exact fun w1 S1 hS1 hs1 ho1 => rbareO_spec r bv wv cv pgs m K false p w1 S1 hS1 hm hP hd
            · exact fun w => Try.call34 _ w
            · (focus ((repeat (first | exact TakeL.nil | apply TakeL.cons | exact Take.head | apply Take.tail)); done))
            · exact fun _ _ h => h
            · exact fun _ h => TakeT.st (by (focus ((repeat (first | exact TakeT.tail | apply TakeT.cons | exact Take.head | apply Take.tail | apply TakeT.drop)); done))) h
          first
            | (apply Par.skip; exact rfl; decide +kernel; exact rfl)
            | (apply Par.quiet _ [false, false, false, true, false, false, true, false, true, false, true, true]; exact rfl; decide +kernel; exact rfl; intro R; refine ⟨_, (by (focus ((repeat (first | exact SelT.nil | apply SelT.yes | apply SelT.no)); done))), ?_⟩;
               (first | (apply EvW.cmpT; exact rfl; exact rfl; exact rfl; omega)))
          (apply Par.quiet _ [false, false, false, true, false, false, true, false, true, false, true, true]; exact rfl; decide +kernel; exact rfl; intro R; refine ⟨_, (by (focus ((repeat (first | exact SelT.nil | apply SelT.yes | apply SelT.no)); done))), ?_⟩;
               (first | (apply EvW.pickT; exact rfl; exact rfl)))
          (apply Par.quiet _ [false, false, false, true, false, false, true, false, true, false, true, true]; exact rfl; decide +kernel; exact rfl; intro R; refine ⟨_, (by (focus ((repeat (first | exact SelT.nil | apply SelT.yes | apply SelT.no)); done))), ?_⟩;
               (first | (apply EvW.move; exact rfl)))
          first
            | (apply Par.skip; exact rfl; decide +kernel; exact rfl)
            | (apply Par.quiet _ [false, false, false, true, false, false, true, false, true, false, true, true]; exact rfl; decide +kernel; exact rfl; intro R; refine ⟨_, (by (focus ((repeat (first | exact SelT.nil | apply SelT.yes | apply SelT.no)); done))), ?_⟩;
               (first | (apply EvW.move; exact rfl)))
          first
            | (apply Par.skip; exact rfl; decide +kernel; exact rfl)
            | (apply Par.quiet _ [false, false, false, true, false, false, true, false, true, false, true, true]; exact rfl; decide +kernel; exact rfl; intro R; refine ⟨_, (by (focus ((repeat (first | exact SelT.nil | apply SelT.yes | apply SelT.no)); done))), ?_⟩;
               (first | (apply EvW.move; exact rfl)))
          apply Par.eff _ [false, false, false, true, false, false, false, false, false, false, false, false] [false, false, false, false, true, false, false, false, false, false, false, false] [false, false, false, false, false, false, true, false, true, false, true, true]
          · exact rfl
          · exact rfl
          · decide +kernel
          · intro R
            refine ⟨_, _, _, (by (focus ((repeat (first | exact SelT.nil | apply SelT.yes | apply SelT.no)); done))), (by (focus ((repeat (first | exact SelT.nil | apply SelT.yes | apply SelT.no)); done))), (by (focus ((repeat (first | exact SelT.nil | apply SelT.yes | apply SelT.no)); done))), ?_⟩
            apply EffW.callT
            · exact rfl
            · exact fun w1 S1 hS1 hs1 ho1 => (by have h := worn_spec b o m K p w1 S1 hS1 hm; rw [hw] at h; exact h)
            · exact fun w => Try.call27 _ w
            · (focus ((repeat (first | exact TakeL.nil | apply TakeL.cons | exact Take.head | apply Take.tail)); done))
            · exact fun _ _ h => h
            · exact fun _ h => TakeT.st (by (focus ((repeat (first | exact TakeT.tail | apply TakeT.cons | exact Take.head | apply Take.tail | apply TakeT.drop)); done))) h
          first
            | (apply Par.skip; exact rfl; decide +kernel; exact rfl)
            | (apply Par.quiet _ [false, false, false, false, false, false, true, false, true, false, true, true]; exact rfl; decide +kernel; exact rfl; intro R; refine ⟨_, (by (focus ((repeat (first | exact SelT.nil | apply SelT.yes | apply SelT.no)); done))), ?_⟩;
               (first | (apply EvW.move; exact rfl)))
          first
            | (apply Par.skip; exact rfl; decide +kernel; exact rfl)
            | (apply Par.quiet _ [false, false, false, false, true, false, true, false, true, false, true, true]; exact rfl; decide +kernel; exact rfl; intro R; refine ⟨_, (by (focus ((repeat (first | exact SelT.nil | apply SelT.yes | apply SelT.no)); done))), ?_⟩;
               (first | (apply EvW.cmpT; exact rfl; exact rfl; exact rfl; omega)))
          (apply Par.quiet _ [false, false, false, false, true, false, true, false, true, false, true, true]; exact rfl; decide +kernel; exact rfl; intro R; refine ⟨_, (by (focus ((repeat (first | exact SelT.nil | apply SelT.yes | apply SelT.no)); done))), ?_⟩;
               (first | (apply EvW.pickT; exact rfl; exact rfl)))
          (apply Par.quiet _ [false, false, false, false, true, false, true, false, true, false, true, true]; exact rfl; decide +kernel; exact rfl; intro R; refine ⟨_, (by (focus ((repeat (first | exact SelT.nil | apply SelT.yes | apply SelT.no)); done))), ?_⟩;
               (first | (apply EvW.assign; exact rfl)))
          exact Par.nil
        · repeat (first | exact AllN.nil | (apply AllN.cons; (intro c x; (repeat (first | exact IndA.nil | (apply IndA.skip; decide +kernel) | apply IndA.same))))) 
        · repeat (first | exact AllN.nil | (apply AllN.cons; (intro c x; (repeat (first | exact IndT.nil | (apply IndT.skip; decide +kernel) | apply IndT.same))))) 
        · exact fun _ => rfl
        intro c
        refine ⟨_, (by (focus ((repeat (first | exact SelT.nil | apply SelT.yes | apply SelT.no)); done))), ?_⟩
        apply WE.writ
        · (focus ((repeat (first | exact Writ.nil | apply Writ.some | apply Writ.none)); done))
        repeat first
          | refine WE.next ?_ | refine WC.ret ?_
        refine WE.ret1 rfl rfl ?_
        exact ⟨rfl, rfl⟩
    · have hw : m.worn' p = 0 := by unfold Mem.worn'; rw [if_pos (.inr (by omega))]
      cases d with
      | true =>
        repeat first
          | (apply WL.q; exact rfl; exact rfl; exact rfl; (first | (apply EvW.move; exact rfl) | (apply EvW.assign; exact rfl) | (apply EvW.cmpT; exact rfl; exact rfl; exact rfl; omega) | (apply EvW.cmpF; exact rfl; exact rfl; exact rfl; omega) | (apply EvW.pickT; exact rfl; exact rfl)))
          | refine WC.seq ?_ | refine WC.region ?_ | refine WL.nil ?_ | refine WE.next ?_ | refine WC.skip ?_ | refine WC.condF rfl ?_ | refine WL.wanted rfl rfl rfl ?_
        repeat refine WC.seq ?_
        refine WC.keep (xs := [.blk b (Value.map (o) :: i64 (m).ar :: i64 (m).ac :: Value.bool (m).off :: ((m).pages.map str ++ (m).worn.map i64)).toArray 41, .blk r #[bv, wv, cv, i64 (m).ar, i64 (m).ac, .bool true] 59, .own 31 1 bv 24 ((pgs).map pgV), sepL ((pgs).map (pgH 5)), .own 3 1 wv 24 ((m).worn.map i64)]) (by (focus ((repeat (first | exact TakeL.nil | apply TakeL.cons | exact Take.head | apply Take.tail)); done))) ?_
        apply WC.par _ (fun c : Ch => [.blk b (Value.map (o) :: i64 (m).ar :: i64 (m).ac :: Value.bool (m).off :: ((m).pages.map str ++ (m).worn.map i64)).toArray 41, .blk b (Value.map (o) :: i64 (m).ar :: i64 (m).ac :: Value.bool (m).off :: ((m).pages.map str ++ (m).worn.map i64)).toArray 41, .blk b (Value.map (o) :: i64 (m).ar :: i64 (m).ac :: Value.bool (m).off :: ((m).pages.map str ++ (m).worn.map i64)).toArray 41, .blk b (Value.map (o) :: i64 (m).ar :: i64 (m).ac :: Value.bool (m).off :: ((m).pages.map str ++ (m).worn.map i64)).toArray 41, .blk b (Value.map (o) :: i64 (m).ar :: i64 (m).ac :: Value.bool (m).off :: ((m).pages.map str ++ (m).worn.map i64)).toArray 41, .blk r #[bv, wv, cv, i64 (m).ar, i64 (m).ac, .bool true] 59, .blk r #[bv, wv, cv, i64 (m).ar, i64 (m).ac, .bool true] 59, .own 31 1 bv 24 ((pgs).map pgV), .own 31 1 bv 24 ((pgs).map pgV), sepL ((pgs).map (pgH 5)), sepL ((pgs).map (pgH 5)), .own 3 1 wv 24 ((m).worn.map i64)]) [none, some 3, some 13, some 23, some 32, none, some 26, none, some 26, none, some 26, none] [some 3, some 13, some 23, some 32, none, some 26, none, some 26, none, some 26, none, none] [] Try.mixed
        · (focus ((repeat (first | exact Restr.nil | (apply Restr.keep; exact rfl; exact rfl) | (apply Restr.drop; exact rfl))); done))
        · intro c; exact (by (focus ((repeat (first | exact SelT.nil | apply SelT.yes | apply SelT.no)); done)))
        · exact rfl
        · decide +kernel
        · decide +kernel
        · intro c
          (apply Par.quiet _ [true, false, false, false, false, true, false, true, false, true, false, true]; exact rfl; decide +kernel; exact rfl; intro R; refine ⟨_, (by (focus ((repeat (first | exact SelT.nil | apply SelT.yes | apply SelT.no)); done))), ?_⟩;
               (first | (apply EvW.move; exact rfl)))
          (apply Par.quiet _ [true, false, false, false, false, true, false, true, false, true, false, true]; exact rfl; decide +kernel; exact rfl; intro R; refine ⟨_, (by (focus ((repeat (first | exact SelT.nil | apply SelT.yes | apply SelT.no)); done))), ?_⟩;
               (first | (apply EvW.nilPtr; exact rfl)))
          (apply Par.quiet _ [true, false, false, false, false, true, false, true, false, true, false, true]; exact rfl; decide +kernel; exact rfl; intro R; refine ⟨_, (by (focus ((repeat (first | exact SelT.nil | apply SelT.yes | apply SelT.no)); done))), ?_⟩;
               (first | (apply EvW.fieldAddr0; exact rfl; exact FldC.eq)))
          apply Par.eff _ [true, false, false, false, false, false, false, false, false, false, false, false] [false, true, false, false, false, false, false, false, false, false, false, false] [false, false, false, false, false, true, false, true, false, true, false, true]
          · exact rfl
          · exact rfl
          · decide +kernel
          · intro R
            refine ⟨_, _, _, (by (focus ((repeat (first | exact SelT.nil | apply SelT.yes | apply SelT.no)); done))), (by (focus ((repeat (first | exact SelT.nil | apply SelT.yes | apply SelT.no)); done))), (by (focus ((repeat (first | exact SelT.nil | apply SelT.yes | apply SelT.no)); done))), ?_⟩
            apply EffW.callT
            · exact rfl
            · exact fun w1 S1 hS1 hs1 ho1 => down_spec b o m true w1 S1 hS1 hd
            · exact fun w => Try.call17 _ w
            · (focus ((repeat (first | exact TakeL.nil | apply TakeL.cons | exact Take.head | apply Take.tail)); done))
            · exact fun _ _ h => h
            · exact fun _ h => TakeT.st (by (focus ((repeat (first | exact TakeT.tail | apply TakeT.cons | exact Take.head | apply Take.tail | apply TakeT.drop)); done))) h
          (apply Par.quiet _ [false, false, false, false, false, true, false, true, false, true, false, true]; exact rfl; decide +kernel; exact rfl; intro R; refine ⟨_, (by (focus ((repeat (first | exact SelT.nil | apply SelT.yes | apply SelT.no)); done))), ?_⟩;
               (first | (apply EvW.move; exact rfl)))
          (apply Par.quiet _ [false, false, false, false, false, true, false, true, false, true, false, true]; exact rfl; decide +kernel; exact rfl; intro R; refine ⟨_, (by (focus ((repeat (first | exact SelT.nil | apply SelT.yes | apply SelT.no)); done))), ?_⟩;
               (first | (apply EvW.nilPtr; exact rfl)))
          (apply Par.quiet _ [false, false, false, false, false, true, false, true, false, true, false, true]; exact rfl; decide +kernel; exact rfl; intro R; refine ⟨_, (by (focus ((repeat (first | exact SelT.nil | apply SelT.yes | apply SelT.no)); done))), ?_⟩;
               (first | (apply EvW.fieldAddr0; exact rfl; exact FldC.eq)))
          (apply Par.quiet _ [false, false, false, false, false, true, false, true, false, true, false, true]; exact rfl; decide +kernel; exact rfl; intro R; refine ⟨_, (by (focus ((repeat (first | exact SelT.nil | apply SelT.yes | apply SelT.no)); done))), ?_⟩;
               (first | (apply EvW.load; exact rfl; exact ScalC.eq; (focus ((repeat (first | exact Take.head | apply Take.tail)); done)); exact rfl)))
          (apply Par.quiet _ [false, true, false, false, false, true, false, true, false, true, false, true]; exact rfl; decide +kernel; exact rfl; intro R; refine ⟨_, (by (focus ((repeat (first | exact SelT.nil | apply SelT.yes | apply SelT.no)); done))), ?_⟩;
               (first | (apply EvW.beqS; exact rfl; exact rfl; exact UndC.eq)))
          (apply Par.quiet _ [false, true, false, false, false, true, false, true, false, true, false, true]; exact rfl; decide +kernel; exact rfl; intro R; refine ⟨_, (by (focus ((repeat (first | exact SelT.nil | apply SelT.yes | apply SelT.no)); done))), ?_⟩;
               (first | (apply EvW.move; exact rfl)))
          first
            | (apply Par.skip; exact rfl; decide +kernel; exact rfl)
            | (apply Par.quiet _ [false, true, false, false, false, true, false, true, false, true, false, true]; exact rfl; decide +kernel; exact rfl; intro R; refine ⟨_, (by (focus ((repeat (first | exact SelT.nil | apply SelT.yes | apply SelT.no)); done))), ?_⟩;
               (first | (apply EvW.move; exact rfl)))
          first
            | (apply Par.skip; exact rfl; decide +kernel; exact rfl)
            | (apply Par.quiet _ [false, true, false, false, false, true, false, true, false, true, false, true]; exact rfl; decide +kernel; exact rfl; intro R; refine ⟨_, (by (focus ((repeat (first | exact SelT.nil | apply SelT.yes | apply SelT.no)); done))), ?_⟩;
               (first | (apply EvW.nilPtr; exact rfl)))
          first
            | (apply Par.skip; exact rfl; decide +kernel; exact rfl)
            | (apply Par.quiet _ [false, true, false, false, false, true, false, true, false, true, false, true]; exact rfl; decide +kernel; exact rfl; intro R; refine ⟨_, (by (focus ((repeat (first | exact SelT.nil | apply SelT.yes | apply SelT.no)); done))), ?_⟩;
               (first | (apply EvW.fieldAddr0; exact rfl; exact FldC.eq)))
          apply Par.eff _ [false, true, false, false, false, false, false, false, false, false, false, false] [false, false, true, false, false, false, false, false, false, false, false, false] [false, false, false, false, false, true, false, true, false, true, false, true]
          · exact rfl
          · exact rfl
          · decide +kernel
          · intro R
            refine ⟨_, _, _, (by (focus ((repeat (first | exact SelT.nil | apply SelT.yes | apply SelT.no)); done))), (by (focus ((repeat (first | exact SelT.nil | apply SelT.yes | apply SelT.no)); done))), (by (focus ((repeat (first | exact SelT.nil | apply SelT.yes | apply SelT.no)); done))), ?_⟩
            apply EffW.callT
            · exact rfl
            · exact fun w1 S1 hS1 hs1 ho1 => acts_spec b o m w1 S1 hS1
            · exact fun w => Try.call26 _ w
            · (focus ((repeat (first | exact TakeL.nil | apply TakeL.cons | exact Take.head | apply Take.tail)); done))
            · exact fun _ _ h => h
            · exact fun _ h => TakeT.st (by (focus ((repeat (first | exact TakeT.tail | apply TakeT.cons | exact Take.head | apply Take.tail | apply TakeT.drop)); done))) h
          first
            | (apply Par.skip; exact rfl; decide +kernel; exact rfl)
            | (apply Par.quiet _ [false, false, false, false, false, true, false, true, false, true, false, true]; exact rfl; decide +kernel; exact rfl; intro R; refine ⟨_, (by (focus ((repeat (first | exact SelT.nil | apply SelT.yes | apply SelT.no)); done))), ?_⟩;
               (first | (apply EvW.move; exact rfl)))
          first
            | (apply Par.skip; exact rfl; decide +kernel; exact rfl)
            | (apply Par.quiet _ [false, false, false, false, false, true, false, true, false, true, false, true]; exact rfl; decide +kernel; exact rfl; intro R; refine ⟨_, (by (focus ((repeat (first | exact SelT.nil | apply SelT.yes | apply SelT.no)); done))), ?_⟩;
               (first | (apply EvW.nilPtr; exact rfl)))
          first
            | (apply Par.skip; exact rfl; decide +kernel; exact rfl)
            | (apply Par.quiet _ [false, false, false, false, false, true, false, true, false, true, false, true]; exact rfl; decide +kernel; exact rfl; intro R; refine ⟨_, (by (focus ((repeat (first | exact SelT.nil | apply SelT.yes | apply SelT.no)); done))), ?_⟩;
               (first | (apply EvW.fieldAddr0; exact rfl; exact FldC.eq)))
          first
            | (apply Par.skip; exact rfl; decide +kernel; exact rfl)
            | (apply Par.quiet _ [false, false, false, false, false, true, false, true, false, true, false, true]; exact rfl; decide +kernel; exact rfl; intro R; refine ⟨_, (by (focus ((repeat (first | exact SelT.nil | apply SelT.yes | apply SelT.no)); done))), ?_⟩;
               (first | (apply EvW.load; exact rfl; exact ScalC.eq; (focus ((repeat (first | exact Take.head | apply Take.tail)); done)); exact rfl)))
          first
            | (apply Par.skip; exact rfl; decide +kernel; exact rfl)
            | (apply Par.quiet _ [false, false, true, false, false, true, false, true, false, true, false, true]; exact rfl; decide +kernel; exact rfl; intro R; refine ⟨_, (by (focus ((repeat (first | exact SelT.nil | apply SelT.yes | apply SelT.no)); done))), ?_⟩;
               (first | (apply EvW.cmpT; exact rfl; exact rfl; exact rfl; omega)))
          (apply Par.quiet _ [false, false, true, false, false, true, false, true, false, true, false, true]; exact rfl; decide +kernel; exact rfl; intro R; refine ⟨_, (by (focus ((repeat (first | exact SelT.nil | apply SelT.yes | apply SelT.no)); done))), ?_⟩;
               (first | (apply EvW.pickT; exact rfl; exact rfl)))
          (apply Par.quiet _ [false, false, true, false, false, true, false, true, false, true, false, true]; exact rfl; decide +kernel; exact rfl; intro R; refine ⟨_, (by (focus ((repeat (first | exact SelT.nil | apply SelT.yes | apply SelT.no)); done))), ?_⟩;
               (first | (apply EvW.move; exact rfl)))
          first
            | (apply Par.skip; exact rfl; decide +kernel; exact rfl)
            | (apply Par.quiet _ [false, false, true, false, false, true, false, true, false, true, false, true]; exact rfl; decide +kernel; exact rfl; intro R; refine ⟨_, (by (focus ((repeat (first | exact SelT.nil | apply SelT.yes | apply SelT.no)); done))), ?_⟩;
               (first | (apply EvW.move; exact rfl)))
          first
            | (apply Par.skip; exact rfl; decide +kernel; exact rfl)
            | (apply Par.quiet _ [false, false, true, false, false, true, false, true, false, true, false, true]; exact rfl; decide +kernel; exact rfl; intro R; refine ⟨_, (by (focus ((repeat (first | exact SelT.nil | apply SelT.yes | apply SelT.no)); done))), ?_⟩;
               (first | (apply EvW.move; exact rfl)))
          apply Par.eff _ [false, false, true, false, false, false, false, false, false, false, false, false] [false, false, false, true, false, false, false, false, false, false, false, false] [false, false, false, false, false, true, false, true, false, true, false, true]
          · exact rfl
          · exact rfl
          · decide +kernel
          · intro R
            refine ⟨_, _, _, (by (focus ((repeat (first | exact SelT.nil | apply SelT.yes | apply SelT.no)); done))), (by (focus ((repeat (first | exact SelT.nil | apply SelT.yes | apply SelT.no)); done))), (by (focus ((repeat (first | exact SelT.nil | apply SelT.yes | apply SelT.no)); done))), ?_⟩
            apply EffW.callT
            · exact rfl
            · exact fun w1 S1 hS1 hs1 ho1 => bareOf_spec b o m K p w1 S1 hS1 hm
            · exact fun w => Try.call13 _ w
            · (focus ((repeat (first | exact TakeL.nil | apply TakeL.cons | exact Take.head | apply Take.tail)); done))
            · exact fun _ _ h => h
            · exact fun _ h => TakeT.st (by (focus ((repeat (first | exact TakeT.tail | apply TakeT.cons | exact Take.head | apply Take.tail | apply TakeT.drop)); done))) h
          first
            | (apply Par.skip; exact rfl; decide +kernel; exact rfl)
            | (apply Par.quiet _ [false, false, false, false, false, true, false, true, false, true, false, true]; exact rfl; decide +kernel; exact rfl; intro R; refine ⟨_, (by (focus ((repeat (first | exact SelT.nil | apply SelT.yes | apply SelT.no)); done))), ?_⟩;
               (first | (apply EvW.move; exact rfl)))
          first
            | (apply Par.skip; exact rfl; decide +kernel; exact rfl)
            | (apply Par.quiet _ [false, false, false, false, false, true, false, true, false, true, false, true]; exact rfl; decide +kernel; exact rfl; intro R; refine ⟨_, (by (focus ((repeat (first | exact SelT.nil | apply SelT.yes | apply SelT.no)); done))), ?_⟩;
               (first | (apply EvW.move; exact rfl)))
          apply Par.eff _ [false, false, false, false, false, true, false, true, false, true, false, false] [false, false, false, false, false, false, true, false, true, false, true, false] [false, false, false, true, false, false, false, false, false, false, false, true]
          · exact rfl
          · exact rfl
          · decide +kernel
          · intro R
            refine ⟨_, _, _, (by (focus ((repeat (first | exact SelT.nil | apply SelT.yes | apply SelT.no)); done))), (by (focus ((repeat (first | exact SelT.nil | apply SelT.yes | apply SelT.no)); done))), (by (focus ((repeat (first | exact SelT.nil | apply SelT.yes | apply SelT.no)); done))), ?_⟩
            apply EffW.callT
            · exact rfl
            · exact fun w1 S1 hS1 hs1 ho1 => rbareO_spec r bv wv cv pgs m K true p w1 S1 hS1 hm hP hd
            · exact fun w => Try.call34 _ w
            · (focus ((repeat (first | exact TakeL.nil | apply TakeL.cons | exact Take.head | apply Take.tail)); done))
            · exact fun _ _ h => h
            · exact fun _ h => TakeT.st (by (focus ((repeat (first | exact TakeT.tail | apply TakeT.cons | exact Take.head | apply Take.tail | apply TakeT.drop)); done))) h
          first
            | (apply Par.skip; exact rfl; decide +kernel; exact rfl)
            | (apply Par.quiet _ [false, false, false, true, false, false, true, false, true, false, true, true]; exact rfl; decide +kernel; exact rfl; intro R; refine ⟨_, (by (focus ((repeat (first | exact SelT.nil | apply SelT.yes | apply SelT.no)); done))), ?_⟩;
               (first | (apply EvW.cmpT; exact rfl; exact rfl; exact rfl; omega)))
          (apply Par.quiet _ [false, false, false, true, false, false, true, false, true, false, true, true]; exact rfl; decide +kernel; exact rfl; intro R; refine ⟨_, (by (focus ((repeat (first | exact SelT.nil | apply SelT.yes | apply SelT.no)); done))), ?_⟩;
               (first | (apply EvW.pickT; exact rfl; exact rfl)))
          (apply Par.quiet _ [false, false, false, true, false, false, true, false, true, false, true, true]; exact rfl; decide +kernel; exact rfl; intro R; refine ⟨_, (by (focus ((repeat (first | exact SelT.nil | apply SelT.yes | apply SelT.no)); done))), ?_⟩;
               (first | (apply EvW.move; exact rfl)))
          first
            | (apply Par.skip; exact rfl; decide +kernel; exact rfl)
            | (apply Par.quiet _ [false, false, false, true, false, false, true, false, true, false, true, true]; exact rfl; decide +kernel; exact rfl; intro R; refine ⟨_, (by (focus ((repeat (first | exact SelT.nil | apply SelT.yes | apply SelT.no)); done))), ?_⟩;
               (first | (apply EvW.move; exact rfl)))
          first
            | (apply Par.skip; exact rfl; decide +kernel; exact rfl)
            | (apply Par.quiet _ [false, false, false, true, false, false, true, false, true, false, true, true]; exact rfl; decide +kernel; exact rfl; intro R; refine ⟨_, (by (focus ((repeat (first | exact SelT.nil | apply SelT.yes | apply SelT.no)); done))), ?_⟩;
               (first | (apply EvW.move; exact rfl)))
          apply Par.eff _ [false, false, false, true, false, false, false, false, false, false, false, false] [false, false, false, false, true, false, false, false, false, false, false, false] [false, false, false, false, false, false, true, false, true, false, true, true]
          · exact rfl
          · exact rfl
          · decide +kernel
          · intro R
            refine ⟨_, _, _, (by (focus ((repeat (first | exact SelT.nil | apply SelT.yes | apply SelT.no)); done))), (by (focus ((repeat (first | exact SelT.nil | apply SelT.yes | apply SelT.no)); done))), (by (focus ((repeat (first | exact SelT.nil | apply SelT.yes | apply SelT.no)); done))), ?_⟩
            apply EffW.callT
            · exact rfl
            · exact fun w1 S1 hS1 hs1 ho1 => (by have h := worn_spec b o m K p w1 S1 hS1 hm; rw [hw] at h; exact h)
            · exact fun w => Try.call27 _ w
            · (focus ((repeat (first | exact TakeL.nil | apply TakeL.cons | exact Take.head | apply Take.tail)); done))
            · exact fun _ _ h => h
            · exact fun _ h => TakeT.st (by (focus ((repeat (first | exact TakeT.tail | apply TakeT.cons | exact Take.head | apply Take.tail | apply TakeT.drop)); done))) h
          first
            | (apply Par.skip; exact rfl; decide +kernel; exact rfl)
            | (apply Par.quiet _ [false, false, false, false, false, false, true, false, true, false, true, true]; exact rfl; decide +kernel; exact rfl; intro R; refine ⟨_, (by (focus ((repeat (first | exact SelT.nil | apply SelT.yes | apply SelT.no)); done))), ?_⟩;
               (first | (apply EvW.move; exact rfl)))
          first
            | (apply Par.skip; exact rfl; decide +kernel; exact rfl)
            | (apply Par.quiet _ [false, false, false, false, true, false, true, false, true, false, true, true]; exact rfl; decide +kernel; exact rfl; intro R; refine ⟨_, (by (focus ((repeat (first | exact SelT.nil | apply SelT.yes | apply SelT.no)); done))), ?_⟩;
               (first | (apply EvW.cmpT; exact rfl; exact rfl; exact rfl; omega)))
          (apply Par.quiet _ [false, false, false, false, true, false, true, false, true, false, true, true]; exact rfl; decide +kernel; exact rfl; intro R; refine ⟨_, (by (focus ((repeat (first | exact SelT.nil | apply SelT.yes | apply SelT.no)); done))), ?_⟩;
               (first | (apply EvW.pickT; exact rfl; exact rfl)))
          (apply Par.quiet _ [false, false, false, false, true, false, true, false, true, false, true, true]; exact rfl; decide +kernel; exact rfl; intro R; refine ⟨_, (by (focus ((repeat (first | exact SelT.nil | apply SelT.yes | apply SelT.no)); done))), ?_⟩;
               (first | (apply EvW.assign; exact rfl)))
          exact Par.nil
        · repeat (first | exact AllN.nil | (apply AllN.cons; (intro c x; (repeat (first | exact IndA.nil | (apply IndA.skip; decide +kernel) | apply IndA.same))))) 
        · repeat (first | exact AllN.nil | (apply AllN.cons; (intro c x; (repeat (first | exact IndT.nil | (apply IndT.skip; decide +kernel) | apply IndT.same))))) 
        · exact fun _ => rfl
        intro c
        refine ⟨_, (by (focus ((repeat (first | exact SelT.nil | apply SelT.yes | apply SelT.no)); done))), ?_⟩
        apply WE.writ
        · (focus ((repeat (first | exact Writ.nil | apply Writ.some | apply Writ.none)); done))
        repeat first
          | refine WE.next ?_ | refine WC.ret ?_
        refine WE.ret1 rfl rfl ?_
        exact ⟨rfl, rfl⟩
      | false =>
        repeat first
          | (apply WL.q; exact rfl; exact rfl; exact rfl; (first | (apply EvW.move; exact rfl) | (apply EvW.assign; exact rfl) | (apply EvW.cmpT; exact rfl; exact rfl; exact rfl; omega) | (apply EvW.cmpF; exact rfl; exact rfl; exact rfl; omega) | (apply EvW.pickT; exact rfl; exact rfl)))
          | refine WC.seq ?_ | refine WC.region ?_ | refine WL.nil ?_ | refine WE.next ?_ | refine WC.skip ?_ | refine WC.condF rfl ?_ | refine WL.wanted rfl rfl rfl ?_
        repeat refine WC.seq ?_
        refine WC.keep (xs := [.blk b (Value.map (o) :: i64 (m).ar :: i64 (m).ac :: Value.bool (m).off :: ((m).pages.map str ++ (m).worn.map i64)).toArray 41, .blk r #[bv, wv, cv, i64 (m).ar, i64 (m).ac, .bool false] 59, .own 31 1 bv 24 ((pgs).map pgV), sepL ((pgs).map (pgH 5)), .own 3 1 wv 24 ((m).worn.map i64)]) (by (focus ((repeat (first | exact TakeL.nil | apply TakeL.cons | exact Take.head | apply Take.tail)); done))) ?_
        apply WC.par _ (fun c : Ch => [.blk b (Value.map (o) :: i64 (m).ar :: i64 (m).ac :: Value.bool (m).off :: ((m).pages.map str ++ (m).worn.map i64)).toArray 41, .blk b (Value.map (o) :: i64 (m).ar :: i64 (m).ac :: Value.bool (m).off :: ((m).pages.map str ++ (m).worn.map i64)).toArray 41, .blk b (Value.map (o) :: i64 (m).ar :: i64 (m).ac :: Value.bool (m).off :: ((m).pages.map str ++ (m).worn.map i64)).toArray 41, .blk b (Value.map (o) :: i64 (m).ar :: i64 (m).ac :: Value.bool (m).off :: ((m).pages.map str ++ (m).worn.map i64)).toArray 41, .blk b (Value.map (o) :: i64 (m).ar :: i64 (m).ac :: Value.bool (m).off :: ((m).pages.map str ++ (m).worn.map i64)).toArray 41, .blk r #[bv, wv, cv, i64 (m).ar, i64 (m).ac, .bool false] 59, .blk r #[bv, wv, cv, i64 (m).ar, i64 (m).ac, .bool false] 59, .own 31 1 bv 24 ((pgs).map pgV), .own 31 1 bv 24 ((pgs).map pgV), sepL ((pgs).map (pgH 5)), sepL ((pgs).map (pgH 5)), .own 3 1 wv 24 ((m).worn.map i64)]) [none, some 3, some 13, some 23, some 32, none, some 26, none, some 26, none, some 26, none] [some 3, some 13, some 23, some 32, none, some 26, none, some 26, none, some 26, none, none] [] Try.mixed
        · (focus ((repeat (first | exact Restr.nil | (apply Restr.keep; exact rfl; exact rfl) | (apply Restr.drop; exact rfl))); done))
        · intro c; exact (by (focus ((repeat (first | exact SelT.nil | apply SelT.yes | apply SelT.no)); done)))
        · exact rfl
        · decide +kernel
        · decide +kernel
        · intro c
          (apply Par.quiet _ [true, false, false, false, false, true, false, true, false, true, false, true]; exact rfl; decide +kernel; exact rfl; intro R; refine ⟨_, (by (focus ((repeat (first | exact SelT.nil | apply SelT.yes | apply SelT.no)); done))), ?_⟩;
               (first | (apply EvW.move; exact rfl)))
          (apply Par.quiet _ [true, false, false, false, false, true, false, true, false, true, false, true]; exact rfl; decide +kernel; exact rfl; intro R; refine ⟨_, (by (focus ((repeat (first | exact SelT.nil | apply SelT.yes | apply SelT.no)); done))), ?_⟩;
               (first | (apply EvW.nilPtr; exact rfl)))
          (apply Par.quiet _ [true, false, false, false, false, true, false, true, false, true, false, true]; exact rfl; decide +kernel; exact rfl; intro R; refine ⟨_, (by (focus ((repeat (first | exact SelT.nil | apply SelT.yes | apply SelT.no)); done))), ?_⟩;
               (first | (apply EvW.fieldAddr0; exact rfl; exact FldC.eq)))
          apply Par.eff _ [true, false, false, false, false, false, false, false, false, false, false, false] [false, true, false, false, false, false, false, false, false, false, false, false] [false, false, false, false, false, true, false, true, false, true, false, true]
          · exact rfl
          · exact rfl
          · decide +kernel
          · intro R
            refine ⟨_, _, _, (by (focus ((repeat (first | exact SelT.nil | apply SelT.yes | apply SelT.no)); done))), (by (focus ((repeat (first | exact SelT.nil | apply SelT.yes | apply SelT.no)); done))), (by (focus ((repeat (first | exact SelT.nil | apply SelT.yes | apply SelT.no)); done))), ?_⟩
            apply EffW.callT
            · exact rfl
            · exact fun w1 S1 hS1 hs1 ho1 => down_spec b o m false w1 S1 hS1 hd
            · exact fun w => Try.call17 _ w
            · (focus ((repeat (first | exact TakeL.nil | apply TakeL.cons | exact Take.head | apply Take.tail)); done))
            · exact fun _ _ h => h
            · exact fun _ h => TakeT.st (by (focus ((repeat (first | exact TakeT.tail | apply TakeT.cons | exact Take.head | apply Take.tail | apply TakeT.drop)); done))) h
          (apply Par.quiet _ [false, false, false, false, false, true, false, true, false, true, false, true]; exact rfl; decide +kernel; exact rfl; intro R; refine ⟨_, (by (focus ((repeat (first | exact SelT.nil | apply SelT.yes | apply SelT.no)); done))), ?_⟩;
               (first | (apply EvW.move; exact rfl)))
          (apply Par.quiet _ [false, false, false, false, false, true, false, true, false, true, false, true]; exact rfl; decide +kernel; exact rfl; intro R; refine ⟨_, (by (focus ((repeat (first | exact SelT.nil | apply SelT.yes | apply SelT.no)); done))), ?_⟩;
               (first | (apply EvW.nilPtr; exact rfl)))
          (apply Par.quiet _ [false, false, false, false, false, true, false, true, false, true, false, true]; exact rfl; decide +kernel; exact rfl; intro R; refine ⟨_, (by (focus ((repeat (first | exact SelT.nil | apply SelT.yes | apply SelT.no)); done))), ?_⟩;
               (first | (apply EvW.fieldAddr0; exact rfl; exact FldC.eq)))
          (apply Par.quiet _ [false, false, false, false, false, true, false, true, false, true, false, true]; exact rfl; decide +kernel; exact rfl; intro R; refine ⟨_, (by (focus ((repeat (first | exact SelT.nil | apply SelT.yes | apply SelT.no)); done))), ?_⟩;
               (first | (apply EvW.load; exact rfl; exact ScalC.eq; (focus ((repeat (first | exact Take.head | apply Take.tail)); done)); exact rfl)))
          (apply Par.quiet _ [false, true, false, false, false, true, false, true, false, true, false, true]; exact rfl; decide +kernel; exact rfl; intro R; refine ⟨_, (by (focus ((repeat (first | exact SelT.nil | apply SelT.yes | apply SelT.no)); done))), ?_⟩;
               (first | (apply EvW.beqS; exact rfl; exact rfl; exact UndC.eq)))
          (apply Par.quiet _ [false, true, false, false, false, true, false, true, false, true, false, true]; exact rfl; decide +kernel; exact rfl; intro R; refine ⟨_, (by (focus ((repeat (first | exact SelT.nil | apply SelT.yes | apply SelT.no)); done))), ?_⟩;
               (first | (apply EvW.move; exact rfl)))
          first
            | (apply Par.skip; exact rfl; decide +kernel; exact rfl)
            | (apply Par.quiet _ [false, true, false, false, false, true, false, true, false, true, false, true]; exact rfl; decide +kernel; exact rfl; intro R; refine ⟨_, (by (focus ((repeat (first | exact SelT.nil | apply SelT.yes | apply SelT.no)); done))), ?_⟩;
               (first | (apply EvW.move; exact rfl)))
          first
            | (apply Par.skip; exact rfl; decide +kernel; exact rfl)
            | (apply Par.quiet _ [false, true, false, false, false, true, false, true, false, true, false, true]; exact rfl; decide +kernel; exact rfl; intro R; refine ⟨_, (by (focus ((repeat (first | exact SelT.nil | apply SelT.yes | apply SelT.no)); done))), ?_⟩;
               (first | (apply EvW.nilPtr; exact rfl)))
          first
            | (apply Par.skip; exact rfl; decide +kernel; exact rfl)
            | (apply Par.quiet _ [false, true, false, false, false, true, false, true, false, true, false, true]; exact rfl; decide +kernel; exact rfl; intro R; refine ⟨_, (by (focus ((repeat (first | exact SelT.nil | apply SelT.yes | apply SelT.no)); done))), ?_⟩;
               (first | (apply EvW.fieldAddr0; exact rfl; exact FldC.eq)))
          apply Par.eff _ [false, true, false, false, false, false, false, false, false, false, false, false] [false, false, true, false, false, false, false, false, false, false, false, false] [false, false, false, false, false, true, false, true, false, true, false, true]
          · exact rfl
          · exact rfl
          · decide +kernel
          · intro R
            refine ⟨_, _, _, (by (focus ((repeat (first | exact SelT.nil | apply SelT.yes | apply SelT.no)); done))), (by (focus ((repeat (first | exact SelT.nil | apply SelT.yes | apply SelT.no)); done))), (by (focus ((repeat (first | exact SelT.nil | apply SelT.yes | apply SelT.no)); done))), ?_⟩
            apply EffW.callT
            · exact rfl
            · exact fun w1 S1 hS1 hs1 ho1 => acts_spec b o m w1 S1 hS1
            · exact fun w => Try.call26 _ w
            · (focus ((repeat (first | exact TakeL.nil | apply TakeL.cons | exact Take.head | apply Take.tail)); done))
            · exact fun _ _ h => h
            · exact fun _ h => TakeT.st (by (focus ((repeat (first | exact TakeT.tail | apply TakeT.cons | exact Take.head | apply Take.tail | apply TakeT.drop)); done))) h
          first
            | (apply Par.skip; exact rfl; decide +kernel; exact rfl)
            | (apply Par.quiet _ [false, false, false, false, false, true, false, true, false, true, false, true]; exact rfl; decide +kernel; exact rfl; intro R; refine ⟨_, (by (focus ((repeat (first | exact SelT.nil | apply SelT.yes | apply SelT.no)); done))), ?_⟩;
               (first | (apply EvW.move; exact rfl)))
          first
            | (apply Par.skip; exact rfl; decide +kernel; exact rfl)
            | (apply Par.quiet _ [false, false, false, false, false, true, false, true, false, true, false, true]; exact rfl; decide +kernel; exact rfl; intro R; refine ⟨_, (by (focus ((repeat (first | exact SelT.nil | apply SelT.yes | apply SelT.no)); done))), ?_⟩;
               (first | (apply EvW.nilPtr; exact rfl)))
          first
            | (apply Par.skip; exact rfl; decide +kernel; exact rfl)
            | (apply Par.quiet _ [false, false, false, false, false, true, false, true, false, true, false, true]; exact rfl; decide +kernel; exact rfl; intro R; refine ⟨_, (by (focus ((repeat (first | exact SelT.nil | apply SelT.yes | apply SelT.no)); done))), ?_⟩;
               (first | (apply EvW.fieldAddr0; exact rfl; exact FldC.eq)))
          first
            | (apply Par.skip; exact rfl; decide +kernel; exact rfl)
            | (apply Par.quiet _ [false, false, false, false, false, true, false, true, false, true, false, true]; exact rfl; decide +kernel; exact rfl; intro R; refine ⟨_, (by (focus ((repeat (first | exact SelT.nil | apply SelT.yes | apply SelT.no)); done))), ?_⟩;
               (first | (apply EvW.load; exact rfl; exact ScalC.eq; (focus ((repeat (first | exact Take.head | apply Take.tail)); done)); exact rfl)))
          first
            | (apply Par.skip; exact rfl; decide +kernel; exact rfl)
            | (apply Par.quiet _ [false, false, true, false, false, true, false, true, false, true, false, true]; exact rfl; decide +kernel; exact rfl; intro R; refine ⟨_, (by (focus ((repeat (first | exact SelT.nil | apply SelT.yes | apply SelT.no)); done))), ?_⟩;
               (first | (apply EvW.cmpT; exact rfl; exact rfl; exact rfl; omega)))
          (apply Par.quiet _ [false, false, true, false, false, true, false, true, false, true, false, true]; exact rfl; decide +kernel; exact rfl; intro R; refine ⟨_, (by (focus ((repeat (first | exact SelT.nil | apply SelT.yes | apply SelT.no)); done))), ?_⟩;
               (first | (apply EvW.pickT; exact rfl; exact rfl)))
          (apply Par.quiet _ [false, false, true, false, false, true, false, true, false, true, false, true]; exact rfl; decide +kernel; exact rfl; intro R; refine ⟨_, (by (focus ((repeat (first | exact SelT.nil | apply SelT.yes | apply SelT.no)); done))), ?_⟩;
               (first | (apply EvW.move; exact rfl)))
          first
            | (apply Par.skip; exact rfl; decide +kernel; exact rfl)
            | (apply Par.quiet _ [false, false, true, false, false, true, false, true, false, true, false, true]; exact rfl; decide +kernel; exact rfl; intro R; refine ⟨_, (by (focus ((repeat (first | exact SelT.nil | apply SelT.yes | apply SelT.no)); done))), ?_⟩;
               (first | (apply EvW.move; exact rfl)))
          first
            | (apply Par.skip; exact rfl; decide +kernel; exact rfl)
            | (apply Par.quiet _ [false, false, true, false, false, true, false, true, false, true, false, true]; exact rfl; decide +kernel; exact rfl; intro R; refine ⟨_, (by (focus ((repeat (first | exact SelT.nil | apply SelT.yes | apply SelT.no)); done))), ?_⟩;
               (first | (apply EvW.move; exact rfl)))
          apply Par.eff _ [false, false, true, false, false, false, false, false, false, false, false, false] [false, false, false, true, false, false, false, false, false, false, false, false] [false, false, false, false, false, true, false, true, false, true, false, true]
          · exact rfl
          · exact rfl
          · decide +kernel
          · intro R
            refine ⟨_, _, _, (by (focus ((repeat (first | exact SelT.nil | apply SelT.yes | apply SelT.no)); done))), (by (focus ((repeat (first | exact SelT.nil | apply SelT.yes | apply SelT.no)); done))), (by (focus ((repeat (first | exact SelT.nil | apply SelT.yes | apply SelT.no)); done))), ?_⟩
            apply EffW.callT
            · exact rfl
            · exact fun w1 S1 hS1 hs1 ho1 => bareOf_spec b o m K p w1 S1 hS1 hm
            · exact fun w => Try.call13 _ w
            · (focus ((repeat (first | exact TakeL.nil | apply TakeL.cons | exact Take.head | apply Take.tail)); done))
            · exact fun _ _ h => h
            · exact fun _ h => TakeT.st (by (focus ((repeat (first | exact TakeT.tail | apply TakeT.cons | exact Take.head | apply Take.tail | apply TakeT.drop)); done))) h
          first
            | (apply Par.skip; exact rfl; decide +kernel; exact rfl)
            | (apply Par.quiet _ [false, false, false, false, false, true, false, true, false, true, false, true]; exact rfl; decide +kernel; exact rfl; intro R; refine ⟨_, (by (focus ((repeat (first | exact SelT.nil | apply SelT.yes | apply SelT.no)); done))), ?_⟩;
               (first | (apply EvW.move; exact rfl)))
          first
            | (apply Par.skip; exact rfl; decide +kernel; exact rfl)
            | (apply Par.quiet _ [false, false, false, false, false, true, false, true, false, true, false, true]; exact rfl; decide +kernel; exact rfl; intro R; refine ⟨_, (by (focus ((repeat (first | exact SelT.nil | apply SelT.yes | apply SelT.no)); done))), ?_⟩;
               (first | (apply EvW.move; exact rfl)))
          apply Par.eff _ [false, false, false, false, false, true, false, true, false, true, false, false] [false, false, false, false, false, false, true, false, true, false, true, false] [false, false, false, true, false, false, false, false, false, false, false, true]
          · exact rfl
          · exact rfl
          · decide +kernel
          · intro R
            refine ⟨_, _, _, (by (focus ((repeat (first | exact SelT.nil | apply SelT.yes | apply SelT.no)); done))), (by (focus ((repeat (first | exact SelT.nil | apply SelT.yes | apply SelT.no)); done))), (by (focus ((repeat (first | exact SelT.nil | apply SelT.yes | apply SelT.no)); done))), ?_⟩
            apply EffW.callT
            · exact rfl
            · exact fun w1 S1 hS1 hs1 ho1 => rbareO_spec r bv wv cv pgs m K false p w1 S1 hS1 hm hP hd
            · exact fun w => Try.call34 _ w
            · (focus ((repeat (first | exact TakeL.nil | apply TakeL.cons | exact Take.head | apply Take.tail)); done))
            · exact fun _ _ h => h
            · exact fun _ h => TakeT.st (by (focus ((repeat (first | exact TakeT.tail | apply TakeT.cons | exact Take.head | apply Take.tail | apply TakeT.drop)); done))) h
          first
            | (apply Par.skip; exact rfl; decide +kernel; exact rfl)
            | (apply Par.quiet _ [false, false, false, true, false, false, true, false, true, false, true, true]; exact rfl; decide +kernel; exact rfl; intro R; refine ⟨_, (by (focus ((repeat (first | exact SelT.nil | apply SelT.yes | apply SelT.no)); done))), ?_⟩;
               (first | (apply EvW.cmpT; exact rfl; exact rfl; exact rfl; omega)))
          (apply Par.quiet _ [false, false, false, true, false, false, true, false, true, false, true, true]; exact rfl; decide +kernel; exact rfl; intro R; refine ⟨_, (by (focus ((repeat (first | exact SelT.nil | apply SelT.yes | apply SelT.no)); done))), ?_⟩;
               (first | (apply EvW.pickT; exact rfl; exact rfl)))
          (apply Par.quiet _ [false, false, false, true, false, false, true, false, true, false, true, true]; exact rfl; decide +kernel; exact rfl; intro R; refine ⟨_, (by (focus ((repeat (first | exact SelT.nil | apply SelT.yes | apply SelT.no)); done))), ?_⟩;
               (first | (apply EvW.move; exact rfl)))
          first
            | (apply Par.skip; exact rfl; decide +kernel; exact rfl)
            | (apply Par.quiet _ [false, false, false, true, false, false, true, false, true, false, true, true]; exact rfl; decide +kernel; exact rfl; intro R; refine ⟨_, (by (focus ((repeat (first | exact SelT.nil | apply SelT.yes | apply SelT.no)); done))), ?_⟩;
               (first | (apply EvW.move; exact rfl)))
          first
            | (apply Par.skip; exact rfl; decide +kernel; exact rfl)
            | (apply Par.quiet _ [false, false, false, true, false, false, true, false, true, false, true, true]; exact rfl; decide +kernel; exact rfl; intro R; refine ⟨_, (by (focus ((repeat (first | exact SelT.nil | apply SelT.yes | apply SelT.no)); done))), ?_⟩;
               (first | (apply EvW.move; exact rfl)))
          apply Par.eff _ [false, false, false, true, false, false, false, false, false, false, false, false] [false, false, false, false, true, false, false, false, false, false, false, false] [false, false, false, false, false, false, true, false, true, false, true, true]
          · exact rfl
          · exact rfl
          · decide +kernel
          · intro R
            refine ⟨_, _, _, (by (focus ((repeat (first | exact SelT.nil | apply SelT.yes | apply SelT.no)); done))), (by (focus ((repeat (first | exact SelT.nil | apply SelT.yes | apply SelT.no)); done))), (by (focus ((repeat (first | exact SelT.nil | apply SelT.yes | apply SelT.no)); done))), ?_⟩
            apply EffW.callT
            · exact rfl
            · exact fun w1 S1 hS1 hs1 ho1 => (by have h := worn_spec b o m K p w1 S1 hS1 hm; rw [hw] at h; exact h)
            · exact fun w => Try.call27 _ w
            · (focus ((repeat (first | exact TakeL.nil | apply TakeL.cons | exact Take.head | apply Take.tail)); done))
            · exact fun _ _ h => h
            · exact fun _ h => TakeT.st (by (focus ((repeat (first | exact TakeT.tail | apply TakeT.cons | exact Take.head | apply Take.tail | apply TakeT.drop)); done))) h
          first
            | (apply Par.skip; exact rfl; decide +kernel; exact rfl)
            | (apply Par.quiet _ [false, false, false, false, false, false, true, false, true, false, true, true]; exact rfl; decide +kernel; exact rfl; intro R; refine ⟨_, (by (focus ((repeat (first | exact SelT.nil | apply SelT.yes | apply SelT.no)); done))), ?_⟩;
               (first | (apply EvW.move; exact rfl)))
          first
            | (apply Par.skip; exact rfl; decide +kernel; exact rfl)
            | (apply Par.quiet _ [false, false, false, false, true, false, true, false, true, false, true, true]; exact rfl; decide +kernel; exact rfl; intro R; refine ⟨_, (by (focus ((repeat (first | exact SelT.nil | apply SelT.yes | apply SelT.no)); done))), ?_⟩;
               (first | (apply EvW.cmpT; exact rfl; exact rfl; exact rfl; omega)))
          (apply Par.quiet _ [false, false, false, false, true, false, true, false, true, false, true, true]; exact rfl; decide +kernel; exact rfl; intro R; refine ⟨_, (by (focus ((repeat (first | exact SelT.nil | apply SelT.yes | apply SelT.no)); done))), ?_⟩;
               (first | (apply EvW.pickT; exact rfl; exact rfl)))
          (apply Par.quiet _ [false, false, false, false, true, false, true, false, true, false, true, true]; exact rfl; decide +kernel; exact rfl; intro R; refine ⟨_, (by (focus ((repeat (first | exact SelT.nil | apply SelT.yes | apply SelT.no)); done))), ?_⟩;
               (first | (apply EvW.assign; exact rfl)))
          exact Par.nil
        · repeat (first | exact AllN.nil | (apply AllN.cons; (intro c x; (repeat (first | exact IndA.nil | (apply IndA.skip; decide +kernel) | apply IndA.same))))) 
        · repeat (first | exact AllN.nil | (apply AllN.cons; (intro c x; (repeat (first | exact IndT.nil | (apply IndT.skip; decide +kernel) | apply IndT.same))))) 
        · exact fun _ => rfl
        intro c
        refine ⟨_, (by (focus ((repeat (first | exact SelT.nil | apply SelT.yes | apply SelT.no)); done))), ?_⟩
        apply WE.writ
        · (focus ((repeat (first | exact Writ.nil | apply Writ.some | apply Writ.none)); done))
        repeat first
          | refine WE.next ?_ | refine WC.ret ?_
        refine WE.ret1 rfl rfl ?_
        exact ⟨rfl, rfl⟩
  · have hw : m.worn' p = 0 := by unfold Mem.worn'; rw [if_pos (.inl (by omega))]
    cases d with
    | true =>
      repeat first
        | (apply WL.q; exact rfl; exact rfl; exact rfl; (first | (apply EvW.move; exact rfl) | (apply EvW.assign; exact rfl) | (apply EvW.cmpF; exact rfl; exact rfl; exact rfl; omega) | (apply EvW.pickF; exact rfl; exact rfl)))
        | refine WC.seq ?_ | refine WC.region ?_ | refine WL.nil ?_ | refine WE.next ?_ | refine WC.skip ?_ | refine WC.condF rfl ?_ | refine WL.unwanted rfl rfl rfl rfl ?_
      repeat refine WC.seq ?_
      refine WC.keep (xs := [.blk b (Value.map (o) :: i64 (m).ar :: i64 (m).ac :: Value.bool (m).off :: ((m).pages.map str ++ (m).worn.map i64)).toArray 41, .blk r #[bv, wv, cv, i64 (m).ar, i64 (m).ac, .bool true] 59, .own 31 1 bv 24 ((pgs).map pgV), sepL ((pgs).map (pgH 5)), .own 3 1 wv 24 ((m).worn.map i64)]) (by (focus ((repeat (first | exact TakeL.nil | apply TakeL.cons | exact Take.head | apply Take.tail)); done))) ?_
      apply WC.par _ (fun c : Ch => [.blk b (Value.map (o) :: i64 (m).ar :: i64 (m).ac :: Value.bool (m).off :: ((m).pages.map str ++ (m).worn.map i64)).toArray 41, .blk b (Value.map (o) :: i64 (m).ar :: i64 (m).ac :: Value.bool (m).off :: ((m).pages.map str ++ (m).worn.map i64)).toArray 41, .blk b (Value.map (o) :: i64 (m).ar :: i64 (m).ac :: Value.bool (m).off :: ((m).pages.map str ++ (m).worn.map i64)).toArray 41, .blk b (Value.map (o) :: i64 (m).ar :: i64 (m).ac :: Value.bool (m).off :: ((m).pages.map str ++ (m).worn.map i64)).toArray 41, .blk b (Value.map (o) :: i64 (m).ar :: i64 (m).ac :: Value.bool (m).off :: ((m).pages.map str ++ (m).worn.map i64)).toArray 41, .blk r #[bv, wv, cv, i64 (m).ar, i64 (m).ac, .bool true] 59, .blk r #[bv, wv, cv, i64 (m).ar, i64 (m).ac, .bool true] 59, .own 31 1 bv 24 ((pgs).map pgV), .own 31 1 bv 24 ((pgs).map pgV), sepL ((pgs).map (pgH 5)), sepL ((pgs).map (pgH 5)), .own 3 1 wv 24 ((m).worn.map i64)]) [none, some 3, some 13, some 23, some 32, none, some 26, none, some 26, none, some 26, none] [some 3, some 13, some 23, some 32, none, some 26, none, some 26, none, some 26, none, none] [] Try.mixed
      · (focus ((repeat (first | exact Restr.nil | (apply Restr.keep; exact rfl; exact rfl) | (apply Restr.drop; exact rfl))); done))
      · intro c; exact (by (focus ((repeat (first | exact SelT.nil | apply SelT.yes | apply SelT.no)); done)))
      · exact rfl
      · decide +kernel
      · decide +kernel
      · intro c
        (apply Par.quiet _ [true, false, false, false, false, true, false, true, false, true, false, true]; exact rfl; decide +kernel; exact rfl; intro R; refine ⟨_, (by (focus ((repeat (first | exact SelT.nil | apply SelT.yes | apply SelT.no)); done))), ?_⟩;
             (first | (apply EvW.move; exact rfl)))
        (apply Par.quiet _ [true, false, false, false, false, true, false, true, false, true, false, true]; exact rfl; decide +kernel; exact rfl; intro R; refine ⟨_, (by (focus ((repeat (first | exact SelT.nil | apply SelT.yes | apply SelT.no)); done))), ?_⟩;
             (first | (apply EvW.nilPtr; exact rfl)))
        (apply Par.quiet _ [true, false, false, false, false, true, false, true, false, true, false, true]; exact rfl; decide +kernel; exact rfl; intro R; refine ⟨_, (by (focus ((repeat (first | exact SelT.nil | apply SelT.yes | apply SelT.no)); done))), ?_⟩;
             (first | (apply EvW.fieldAddr0; exact rfl; exact FldC.eq)))
        apply Par.eff _ [true, false, false, false, false, false, false, false, false, false, false, false] [false, true, false, false, false, false, false, false, false, false, false, false] [false, false, false, false, false, true, false, true, false, true, false, true]
        · exact rfl
        · exact rfl
        · decide +kernel
        · intro R
          refine ⟨_, _, _, (by (focus ((repeat (first | exact SelT.nil | apply SelT.yes | apply SelT.no)); done))), (by (focus ((repeat (first | exact SelT.nil | apply SelT.yes | apply SelT.no)); done))), (by (focus ((repeat (first | exact SelT.nil | apply SelT.yes | apply SelT.no)); done))), ?_⟩
          apply EffW.callT
          · exact rfl
          · exact fun w1 S1 hS1 hs1 ho1 => down_spec b o m true w1 S1 hS1 hd
          · exact fun w => Try.call17 _ w
          · (focus ((repeat (first | exact TakeL.nil | apply TakeL.cons | exact Take.head | apply Take.tail)); done))
          · exact fun _ _ h => h
          · exact fun _ h => TakeT.st (by (focus ((repeat (first | exact TakeT.tail | apply TakeT.cons | exact Take.head | apply Take.tail | apply TakeT.drop)); done))) h
        (apply Par.quiet _ [false, false, false, false, false, true, false, true, false, true, false, true]; exact rfl; decide +kernel; exact rfl; intro R; refine ⟨_, (by (focus ((repeat (first | exact SelT.nil | apply SelT.yes | apply SelT.no)); done))), ?_⟩;
             (first | (apply EvW.move; exact rfl)))
        (apply Par.quiet _ [false, false, false, false, false, true, false, true, false, true, false, true]; exact rfl; decide +kernel; exact rfl; intro R; refine ⟨_, (by (focus ((repeat (first | exact SelT.nil | apply SelT.yes | apply SelT.no)); done))), ?_⟩;
             (first | (apply EvW.nilPtr; exact rfl)))
        (apply Par.quiet _ [false, false, false, false, false, true, false, true, false, true, false, true]; exact rfl; decide +kernel; exact rfl; intro R; refine ⟨_, (by (focus ((repeat (first | exact SelT.nil | apply SelT.yes | apply SelT.no)); done))), ?_⟩;
             (first | (apply EvW.fieldAddr0; exact rfl; exact FldC.eq)))
        (apply Par.quiet _ [false, false, false, false, false, true, false, true, false, true, false, true]; exact rfl; decide +kernel; exact rfl; intro R; refine ⟨_, (by (focus ((repeat (first | exact SelT.nil | apply SelT.yes | apply SelT.no)); done))), ?_⟩;
             (first | (apply EvW.load; exact rfl; exact ScalC.eq; (focus ((repeat (first | exact Take.head | apply Take.tail)); done)); exact rfl)))
        (apply Par.quiet _ [false, true, false, false, false, true, false, true, false, true, false, true]; exact rfl; decide +kernel; exact rfl; intro R; refine ⟨_, (by (focus ((repeat (first | exact SelT.nil | apply SelT.yes | apply SelT.no)); done))), ?_⟩;
             (first | (apply EvW.beqS; exact rfl; exact rfl; exact UndC.eq)))
        (apply Par.quiet _ [false, true, false, false, false, true, false, true, false, true, false, true]; exact rfl; decide +kernel; exact rfl; intro R; refine ⟨_, (by (focus ((repeat (first | exact SelT.nil | apply SelT.yes | apply SelT.no)); done))), ?_⟩;
             (first | (apply EvW.move; exact rfl)))
        first
          | (apply Par.skip; exact rfl; decide +kernel; exact rfl)
          | (apply Par.quiet _ [false, true, false, false, false, true, false, true, false, true, false, true]; exact rfl; decide +kernel; exact rfl; intro R; refine ⟨_, (by (focus ((repeat (first | exact SelT.nil | apply SelT.yes | apply SelT.no)); done))), ?_⟩;
             (first | (apply EvW.move; exact rfl)))
        first
          | (apply Par.skip; exact rfl; decide +kernel; exact rfl)
          | (apply Par.quiet _ [false, true, false, false, false, true, false, true, false, true, false, true]; exact rfl; decide +kernel; exact rfl; intro R; refine ⟨_, (by (focus ((repeat (first | exact SelT.nil | apply SelT.yes | apply SelT.no)); done))), ?_⟩;
             (first | (apply EvW.nilPtr; exact rfl)))
        first
          | (apply Par.skip; exact rfl; decide +kernel; exact rfl)
          | (apply Par.quiet _ [false, true, false, false, false, true, false, true, false, true, false, true]; exact rfl; decide +kernel; exact rfl; intro R; refine ⟨_, (by (focus ((repeat (first | exact SelT.nil | apply SelT.yes | apply SelT.no)); done))), ?_⟩;
             (first | (apply EvW.fieldAddr0; exact rfl; exact FldC.eq)))
        apply Par.eff _ [false, true, false, false, false, false, false, false, false, false, false, false] [false, false, true, false, false, false, false, false, false, false, false, false] [false, false, false, false, false, true, false, true, false, true, false, true]
        · exact rfl
        · exact rfl
        · decide +kernel
        · intro R
          refine ⟨_, _, _, (by (focus ((repeat (first | exact SelT.nil | apply SelT.yes | apply SelT.no)); done))), (by (focus ((repeat (first | exact SelT.nil | apply SelT.yes | apply SelT.no)); done))), (by (focus ((repeat (first | exact SelT.nil | apply SelT.yes | apply SelT.no)); done))), ?_⟩
          apply EffW.callT
          · exact rfl
          · exact fun w1 S1 hS1 hs1 ho1 => acts_spec b o m w1 S1 hS1
          · exact fun w => Try.call26 _ w
          · (focus ((repeat (first | exact TakeL.nil | apply TakeL.cons | exact Take.head | apply Take.tail)); done))
          · exact fun _ _ h => h
          · exact fun _ h => TakeT.st (by (focus ((repeat (first | exact TakeT.tail | apply TakeT.cons | exact Take.head | apply Take.tail | apply TakeT.drop)); done))) h
        first
          | (apply Par.skip; exact rfl; decide +kernel; exact rfl)
          | (apply Par.quiet _ [false, false, false, false, false, true, false, true, false, true, false, true]; exact rfl; decide +kernel; exact rfl; intro R; refine ⟨_, (by (focus ((repeat (first | exact SelT.nil | apply SelT.yes | apply SelT.no)); done))), ?_⟩;
             (first | (apply EvW.move; exact rfl)))
        first
          | (apply Par.skip; exact rfl; decide +kernel; exact rfl)
          | (apply Par.quiet _ [false, false, false, false, false, true, false, true, false, true, false, true]; exact rfl; decide +kernel; exact rfl; intro R; refine ⟨_, (by (focus ((repeat (first | exact SelT.nil | apply SelT.yes | apply SelT.no)); done))), ?_⟩;
             (first | (apply EvW.nilPtr; exact rfl)))
        first
          | (apply Par.skip; exact rfl; decide +kernel; exact rfl)
          | (apply Par.quiet _ [false, false, false, false, false, true, false, true, false, true, false, true]; exact rfl; decide +kernel; exact rfl; intro R; refine ⟨_, (by (focus ((repeat (first | exact SelT.nil | apply SelT.yes | apply SelT.no)); done))), ?_⟩;
             (first | (apply EvW.fieldAddr0; exact rfl; exact FldC.eq)))
        first
          | (apply Par.skip; exact rfl; decide +kernel; exact rfl)
          | (apply Par.quiet _ [false, false, false, false, false, true, false, true, false, true, false, true]; exact rfl; decide +kernel; exact rfl; intro R; refine ⟨_, (by (focus ((repeat (first | exact SelT.nil | apply SelT.yes | apply SelT.no)); done))), ?_⟩;
             (first | (apply EvW.load; exact rfl; exact ScalC.eq; (focus ((repeat (first | exact Take.head | apply Take.tail)); done)); exact rfl)))
        first
          | (apply Par.skip; exact rfl; decide +kernel; exact rfl)
          | (apply Par.quiet _ [false, false, true, false, false, true, false, true, false, true, false, true]; exact rfl; decide +kernel; exact rfl; intro R; refine ⟨_, (by (focus ((repeat (first | exact SelT.nil | apply SelT.yes | apply SelT.no)); done))), ?_⟩;
             (first | (apply EvW.cmpT; exact rfl; exact rfl; exact rfl; omega)))
        (apply Par.quiet _ [false, false, true, false, false, true, false, true, false, true, false, true]; exact rfl; decide +kernel; exact rfl; intro R; refine ⟨_, (by (focus ((repeat (first | exact SelT.nil | apply SelT.yes | apply SelT.no)); done))), ?_⟩;
             (first | (apply EvW.pickT; exact rfl; exact rfl)))
        (apply Par.quiet _ [false, false, true, false, false, true, false, true, false, true, false, true]; exact rfl; decide +kernel; exact rfl; intro R; refine ⟨_, (by (focus ((repeat (first | exact SelT.nil | apply SelT.yes | apply SelT.no)); done))), ?_⟩;
             (first | (apply EvW.move; exact rfl)))
        first
          | (apply Par.skip; exact rfl; decide +kernel; exact rfl)
          | (apply Par.quiet _ [false, false, true, false, false, true, false, true, false, true, false, true]; exact rfl; decide +kernel; exact rfl; intro R; refine ⟨_, (by (focus ((repeat (first | exact SelT.nil | apply SelT.yes | apply SelT.no)); done))), ?_⟩;
             (first | (apply EvW.move; exact rfl)))
        first
          | (apply Par.skip; exact rfl; decide +kernel; exact rfl)
          | (apply Par.quiet _ [false, false, true, false, false, true, false, true, false, true, false, true]; exact rfl; decide +kernel; exact rfl; intro R; refine ⟨_, (by (focus ((repeat (first | exact SelT.nil | apply SelT.yes | apply SelT.no)); done))), ?_⟩;
             (first | (apply EvW.move; exact rfl)))
        apply Par.eff _ [false, false, true, false, false, false, false, false, false, false, false, false] [false, false, false, true, false, false, false, false, false, false, false, false] [false, false, false, false, false, true, false, true, false, true, false, true]
        · exact rfl
        · exact rfl
        · decide +kernel
        · intro R
          refine ⟨_, _, _, (by (focus ((repeat (first | exact SelT.nil | apply SelT.yes | apply SelT.no)); done))), (by (focus ((repeat (first | exact SelT.nil | apply SelT.yes | apply SelT.no)); done))), (by (focus ((repeat (first | exact SelT.nil | apply SelT.yes | apply SelT.no)); done))), ?_⟩
          apply EffW.callT
          · exact rfl
          · exact fun w1 S1 hS1 hs1 ho1 => bareOf_spec b o m K p w1 S1 hS1 hm
          · exact fun w => Try.call13 _ w
          · (focus ((repeat (first | exact TakeL.nil | apply TakeL.cons | exact Take.head | apply Take.tail)); done))
          · exact fun _ _ h => h
          · exact fun _ h => TakeT.st (by (focus ((repeat (first | exact TakeT.tail | apply TakeT.cons | exact Take.head | apply Take.tail | apply TakeT.drop)); done))) h
        first
          | (apply Par.skip; exact rfl; decide +kernel; exact rfl)
          | (apply Par.quiet _ [false, false, false, false, false, true, false, true, false, true, false, true]; exact rfl; decide +kernel; exact rfl; intro R; refine ⟨_, (by (focus ((repeat (first | exact SelT.nil | apply SelT.yes | apply SelT.no)); done))), ?_⟩;
             (first | (apply EvW.move; exact rfl)))
        first
          | (apply Par.skip; exact rfl; decide +kernel; exact rfl)
          | (apply Par.quiet _ [false, false, false, false, false, true, false, true, false, true, false, true]; exact rfl; decide +kernel; exact rfl; intro R; refine ⟨_, (by (focus ((repeat (first | exact SelT.nil | apply SelT.yes | apply SelT.no)); done))), ?_⟩;
             (first | (apply EvW.move; exact rfl)))
        apply Par.eff _ [false, false, false, false, false, true, false, true, false, true, false, false] [false, false, false, false, false, false, true, false, true, false, true, false] [false, false, false, true, false, false, false, false, false, false, false, true]
        · exact rfl
        · exact rfl
        · decide +kernel
        · intro R
          refine ⟨_, _, _, (by (focus ((repeat (first | exact SelT.nil | apply SelT.yes | apply SelT.no)); done))), (by (focus ((repeat (first | exact SelT.nil | apply SelT.yes | apply SelT.no)); done))), (by (focus ((repeat (first | exact SelT.nil | apply SelT.yes | apply SelT.no)); done))), ?_⟩
          apply EffW.callT
          · exact rfl
          · exact fun w1 S1 hS1 hs1 ho1 => rbareO_spec r bv wv cv pgs m K true p w1 S1 hS1 hm hP hd
          · exact fun w => Try.call34 _ w
          · (focus ((repeat (first | exact TakeL.nil | apply TakeL.cons | exact Take.head | apply Take.tail)); done))
          · exact fun _ _ h => h
          · exact fun _ h => TakeT.st (by (focus ((repeat (first | exact TakeT.tail | apply TakeT.cons | exact Take.head | apply Take.tail | apply TakeT.drop)); done))) h
        first
          | (apply Par.skip; exact rfl; decide +kernel; exact rfl)
          | (apply Par.quiet _ [false, false, false, true, false, false, true, false, true, false, true, true]; exact rfl; decide +kernel; exact rfl; intro R; refine ⟨_, (by (focus ((repeat (first | exact SelT.nil | apply SelT.yes | apply SelT.no)); done))), ?_⟩;
             (first | (apply EvW.cmpT; exact rfl; exact rfl; exact rfl; omega)))
        (apply Par.quiet _ [false, false, false, true, false, false, true, false, true, false, true, true]; exact rfl; decide +kernel; exact rfl; intro R; refine ⟨_, (by (focus ((repeat (first | exact SelT.nil | apply SelT.yes | apply SelT.no)); done))), ?_⟩;
             (first | (apply EvW.pickT; exact rfl; exact rfl)))
        (apply Par.quiet _ [false, false, false, true, false, false, true, false, true, false, true, true]; exact rfl; decide +kernel; exact rfl; intro R; refine ⟨_, (by (focus ((repeat (first | exact SelT.nil | apply SelT.yes | apply SelT.no)); done))), ?_⟩;
             (first | (apply EvW.move; exact rfl)))
        first
          | (apply Par.skip; exact rfl; decide +kernel; exact rfl)
          | (apply Par.quiet _ [false, false, false, true, false, false, true, false, true, false, true, true]; exact rfl; decide +kernel; exact rfl; intro R; refine ⟨_, (by (focus ((repeat (first | exact SelT.nil | apply SelT.yes | apply SelT.no)); done))), ?_⟩;
             (first | (apply EvW.move; exact rfl)))
        first
          | (apply Par.skip; exact rfl; decide +kernel; exact rfl)
          | (apply Par.quiet _ [false, false, false, true, false, false, true, false, true, false, true, true]; exact rfl; decide +kernel; exact rfl; intro R; refine ⟨_, (by (focus ((repeat (first | exact SelT.nil | apply SelT.yes | apply SelT.no)); done))), ?_⟩;
             (first | (apply EvW.move; exact rfl)))
        apply Par.eff _ [false, false, false, true, false, false, false, false, false, false, false, false] [false, false, false, false, true, false, false, false, false, false, false, false] [false, false, false, false, false, false, true, false, true, false, true, true]
        · exact rfl
        · exact rfl
        · decide +kernel
        · intro R
          refine ⟨_, _, _, (by (focus ((repeat (first | exact SelT.nil | apply SelT.yes | apply SelT.no)); done))), (by (focus ((repeat (first | exact SelT.nil | apply SelT.yes | apply SelT.no)); done))), (by (focus ((repeat (first | exact SelT.nil | apply SelT.yes | apply SelT.no)); done))), ?_⟩
          apply EffW.callT
          · exact rfl
          · exact fun w1 S1 hS1 hs1 ho1 => (by have h := worn_spec b o m K p w1 S1 hS1 hm; rw [hw] at h; exact h)
          · exact fun w => Try.call27 _ w
          · (focus ((repeat (first | exact TakeL.nil | apply TakeL.cons | exact Take.head | apply Take.tail)); done))
          · exact fun _ _ h => h
          · exact fun _ h => TakeT.st (by (focus ((repeat (first | exact TakeT.tail | apply TakeT.cons | exact Take.head | apply Take.tail | apply TakeT.drop)); done))) h
        first
          | (apply Par.skip; exact rfl; decide +kernel; exact rfl)
          | (apply Par.quiet _ [false, false, false, false, false, false, true, false, true, false, true, true]; exact rfl; decide +kernel; exact rfl; intro R; refine ⟨_, (by (focus ((repeat (first | exact SelT.nil | apply SelT.yes | apply SelT.no)); done))), ?_⟩;
             (first | (apply EvW.move; exact rfl)))
        first
          | (apply Par.skip; exact rfl; decide +kernel; exact rfl)
          | (apply Par.quiet _ [false, false, false, false, true, false, true, false, true, false, true, true]; exact rfl; decide +kernel; exact rfl; intro R; refine ⟨_, (by (focus ((repeat (first | exact SelT.nil | apply SelT.yes | apply SelT.no)); done))), ?_⟩;
             (first | (apply EvW.cmpT; exact rfl; exact rfl; exact rfl; omega)))
        (apply Par.quiet _ [false, false, false, false, true, false, true, false, true, false, true, true]; exact rfl; decide +kernel; exact rfl; intro R; refine ⟨_, (by (focus ((repeat (first | exact SelT.nil | apply SelT.yes | apply SelT.no)); done))), ?_⟩;
             (first | (apply EvW.pickT; exact rfl; exact rfl)))
        (apply Par.quiet _ [false, false, false, false, true, false, true, false, true, false, true, true]; exact rfl; decide +kernel; exact rfl; intro R; refine ⟨_, (by (focus ((repeat (first | exact SelT.nil | apply SelT.yes | apply SelT.no)); done))), ?_⟩;
             (first | (apply EvW.assign; exact rfl)))
        exact Par.nil
      · repeat (first | exact AllN.nil | (apply AllN.cons; (intro c x; (repeat (first | exact IndA.nil | (apply IndA.skip; decide +kernel) | apply IndA.same))))) 
      · repeat (first | exact AllN.nil | (apply AllN.cons; (intro c x; (repeat (first | exact IndT.nil | (apply IndT.skip; decide +kernel) | apply IndT.same))))) 
      · exact fun _ => rfl
      intro c
      refine ⟨_, (by (focus ((repeat (first | exact SelT.nil | apply SelT.yes | apply SelT.no)); done))), ?_⟩
      apply WE.writ
      · (focus ((repeat (first | exact Writ.nil | apply Writ.some | apply Writ.none)); done))
      repeat first
        | refine WE.next ?_ | refine WC.ret ?_
      refine WE.ret1 rfl rfl ?_
      exact ⟨rfl, rfl⟩
    | false =>
      repeat first
        | (apply WL.q; exact rfl; exact rfl; exact rfl; (first | (apply EvW.move; exact rfl) | (apply EvW.assign; exact rfl) | (apply EvW.cmpF; exact rfl; exact rfl; exact rfl; omega) | (apply EvW.pickF; exact rfl; exact rfl)))
        | refine WC.seq ?_ | refine WC.region ?_ | refine WL.nil ?_ | refine WE.next ?_ | refine WC.skip ?_ | refine WC.condF rfl ?_ | refine WL.unwanted rfl rfl rfl rfl ?_
      repeat refine WC.seq ?_
      refine WC.keep (xs := [.blk b (Value.map (o) :: i64 (m).ar :: i64 (m).ac :: Value.bool (m).off :: ((m).pages.map str ++ (m).worn.map i64)).toArray 41, .blk r #[bv, wv, cv, i64 (m).ar, i64 (m).ac, .bool false] 59, .own 31 1 bv 24 ((pgs).map pgV), sepL ((pgs).map (pgH 5)), .own 3 1 wv 24 ((m).worn.map i64)]) (by (focus ((repeat (first | exact TakeL.nil | apply TakeL.cons | exact Take.head | apply Take.tail)); done))) ?_
      apply WC.par _ (fun c : Ch => [.blk b (Value.map (o) :: i64 (m).ar :: i64 (m).ac :: Value.bool (m).off :: ((m).pages.map str ++ (m).worn.map i64)).toArray 41, .blk b (Value.map (o) :: i64 (m).ar :: i64 (m).ac :: Value.bool (m).off :: ((m).pages.map str ++ (m).worn.map i64)).toArray 41, .blk b (Value.map (o) :: i64 (m).ar :: i64 (m).ac :: Value.bool (m).off :: ((m).pages.map str ++ (m).worn.map i64)).toArray 41, .blk b (Value.map (o) :: i64 (m).ar :: i64 (m).ac :: Value.bool (m).off :: ((m).pages.map str ++ (m).worn.map i64)).toArray 41, .blk b (Value.map (o) :: i64 (m).ar :: i64 (m).ac :: Value.bool (m).off :: ((m).pages.map str ++ (m).worn.map i64)).toArray 41, .blk r #[bv, wv, cv, i64 (m).ar, i64 (m).ac, .bool false] 59, .blk r #[bv, wv, cv, i64 (m).ar, i64 (m).ac, .bool false] 59, .own 31 1 bv 24 ((pgs).map pgV), .own 31 1 bv 24 ((pgs).map pgV), sepL ((pgs).map (pgH 5)), sepL ((pgs).map (pgH 5)), .own 3 1 wv 24 ((m).worn.map i64)]) [none, some 3, some 13, some 23, some 32, none, some 26, none, some 26, none, some 26, none] [some 3, some 13, some 23, some 32, none, some 26, none, some 26, none, some 26, none, none] [] Try.mixed
      · (focus ((repeat (first | exact Restr.nil | (apply Restr.keep; exact rfl; exact rfl) | (apply Restr.drop; exact rfl))); done))
      · intro c; exact (by (focus ((repeat (first | exact SelT.nil | apply SelT.yes | apply SelT.no)); done)))
      · exact rfl
      · decide +kernel
      · decide +kernel
      · intro c
        (apply Par.quiet _ [true, false, false, false, false, true, false, true, false, true, false, true]; exact rfl; decide +kernel; exact rfl; intro R; refine ⟨_, (by (focus ((repeat (first | exact SelT.nil | apply SelT.yes | apply SelT.no)); done))), ?_⟩;
             (first | (apply EvW.move; exact rfl)))
        (apply Par.quiet _ [true, false, false, false, false, true, false, true, false, true, false, true]; exact rfl; decide +kernel; exact rfl; intro R; refine ⟨_, (by (focus ((repeat (first | exact SelT.nil | apply SelT.yes | apply SelT.no)); done))), ?_⟩;
             (first | (apply EvW.nilPtr; exact rfl)))
        (apply Par.quiet _ [true, false, false, false, false, true, false, true, false, true, false, true]; exact rfl; decide +kernel; exact rfl; intro R; refine ⟨_, (by (focus ((repeat (first | exact SelT.nil | apply SelT.yes | apply SelT.no)); done))), ?_⟩;
             (first | (apply EvW.fieldAddr0; exact rfl; exact FldC.eq)))
        apply Par.eff _ [true, false, false, false, false, false, false, false, false, false, false, false] [false, true, false, false, false, false, false, false, false, false, false, false] [false, false, false, false, false, true, false, true, false, true, false, true]
        · exact rfl
        · exact rfl
        · decide +kernel
        · intro R
          refine ⟨_, _, _, (by (focus ((repeat (first | exact SelT.nil | apply SelT.yes | apply SelT.no)); done))), (by (focus ((repeat (first | exact SelT.nil | apply SelT.yes | apply SelT.no)); done))), (by (focus ((repeat (first | exact SelT.nil | apply SelT.yes | apply SelT.no)); done))), ?_⟩
          apply EffW.callT
          · exact rfl
          · exact fun w1 S1 hS1 hs1 ho1 => down_spec b o m false w1 S1 hS1 hd
          · exact fun w => Try.call17 _ w
          · (focus ((repeat (first | exact TakeL.nil | apply TakeL.cons | exact Take.head | apply Take.tail)); done))
          · exact fun _ _ h => h
          · exact fun _ h => TakeT.st (by (focus ((repeat (first | exact TakeT.tail | apply TakeT.cons | exact Take.head | apply Take.tail | apply TakeT.drop)); done))) h
        (apply Par.quiet _ [false, false, false, false, false, true, false, true, false, true, false, true]; exact rfl; decide +kernel; exact rfl; intro R; refine ⟨_, (by (focus ((repeat (first | exact SelT.nil | apply SelT.yes | apply SelT.no)); done))), ?_⟩;
             (first | (apply EvW.move; exact rfl)))
        (apply Par.quiet _ [false, false, false, false, false, true, false, true, false, true, false, true]; exact rfl; decide +kernel; exact rfl; intro R; refine ⟨_, (by (focus ((repeat (first | exact SelT.nil | apply SelT.yes | apply SelT.no)); done))), ?_⟩;
             (first | (apply EvW.nilPtr; exact rfl)))
        (apply Par.quiet _ [false, false, false, false, false, true, false, true, false, true, false, true]; exact rfl; decide +kernel; exact rfl; intro R; refine ⟨_, (by (focus ((repeat (first | exact SelT.nil | apply SelT.yes | apply SelT.no)); done))), ?_⟩;
             (first | (apply EvW.fieldAddr0; exact rfl; exact FldC.eq)))
        (apply Par.quiet _ [false, false, false, false, false, true, false, true, false, true, false, true]; exact rfl; decide +kernel; exact rfl; intro R; refine ⟨_, (by (focus ((repeat (first | exact SelT.nil | apply SelT.yes | apply SelT.no)); done))), ?_⟩;
             (first | (apply EvW.load; exact rfl; exact ScalC.eq; (focus ((repeat (first | exact Take.head | apply Take.tail)); done)); exact rfl)))
        (apply Par.quiet _ [false, true, false, false, false, true, false, true, false, true, false, true]; exact rfl; decide +kernel; exact rfl; intro R; refine ⟨_, (by (focus ((repeat (first | exact SelT.nil | apply SelT.yes | apply SelT.no)); done))), ?_⟩;
             (first | (apply EvW.beqS; exact rfl; exact rfl; exact UndC.eq)))
        (apply Par.quiet _ [false, true, false, false, false, true, false, true, false, true, false, true]; exact rfl; decide +kernel; exact rfl; intro R; refine ⟨_, (by (focus ((repeat (first | exact SelT.nil | apply SelT.yes | apply SelT.no)); done))), ?_⟩;
             (first | (apply EvW.move; exact rfl)))
        first
          | (apply Par.skip; exact rfl; decide +kernel; exact rfl)
          | (apply Par.quiet _ [false, true, false, false, false, true, false, true, false, true, false, true]; exact rfl; decide +kernel; exact rfl; intro R; refine ⟨_, (by (focus ((repeat (first | exact SelT.nil | apply SelT.yes | apply SelT.no)); done))), ?_⟩;
             (first | (apply EvW.move; exact rfl)))
        first
          | (apply Par.skip; exact rfl; decide +kernel; exact rfl)
          | (apply Par.quiet _ [false, true, false, false, false, true, false, true, false, true, false, true]; exact rfl; decide +kernel; exact rfl; intro R; refine ⟨_, (by (focus ((repeat (first | exact SelT.nil | apply SelT.yes | apply SelT.no)); done))), ?_⟩;
             (first | (apply EvW.nilPtr; exact rfl)))
        first
          | (apply Par.skip; exact rfl; decide +kernel; exact rfl)
          | (apply Par.quiet _ [false, true, false, false, false, true, false, true, false, true, false, true]; exact rfl; decide +kernel; exact rfl; intro R; refine ⟨_, (by (focus ((repeat (first | exact SelT.nil | apply SelT.yes | apply SelT.no)); done))), ?_⟩;
             (first | (apply EvW.fieldAddr0; exact rfl; exact FldC.eq)))
        apply Par.eff _ [false, true, false, false, false, false, false, false, false, false, false, false] [false, false, true, false, false, false, false, false, false, false, false, false] [false, false, false, false, false, true, false, true, false, true, false, true]
        · exact rfl
        · exact rfl
        · decide +kernel
        · intro R
          refine ⟨_, _, _, (by (focus ((repeat (first | exact SelT.nil | apply SelT.yes | apply SelT.no)); done))), (by (focus ((repeat (first | exact SelT.nil | apply SelT.yes | apply SelT.no)); done))), (by (focus ((repeat (first | exact SelT.nil | apply SelT.yes | apply SelT.no)); done))), ?_⟩
          apply EffW.callT
          · exact rfl
          · exact fun w1 S1 hS1 hs1 ho1 => acts_spec b o m w1 S1 hS1
          · exact fun w => Try.call26 _ w
          · (focus ((repeat (first | exact TakeL.nil | apply TakeL.cons | exact Take.head | apply Take.tail)); done))
          · exact fun _ _ h => h
          · exact fun _ h => TakeT.st (by (focus ((repeat (first | exact TakeT.tail | apply TakeT.cons | exact Take.head | apply Take.tail | apply TakeT.drop)); done))) h
        first
          | (apply Par.skip; exact rfl; decide +kernel; exact rfl)
          | (apply Par.quiet _ [false, false, false, false, false, true, false, true, false, true, false, true]; exact rfl; decide +kernel; exact rfl; intro R; refine ⟨_, (by (focus ((repeat (first | exact SelT.nil | apply SelT.yes | apply SelT.no)); done))), ?_⟩;
             (first | (apply EvW.move; exact rfl)))
        first
          | (apply Par.skip; exact rfl; decide +kernel; exact rfl)
          | (apply Par.quiet _ [false, false, false, false, false, true, false, true, false, true, false, true]; exact rfl; decide +kernel; exact rfl; intro R; refine ⟨_, (by (focus ((repeat (first | exact SelT.nil | apply SelT.yes | apply SelT.no)); done))), ?_⟩;
             (first | (apply EvW.nilPtr; exact rfl)))
        first
          | (apply Par.skip; exact rfl; decide +kernel; exact rfl)
          | (apply Par.quiet _ [false, false, false, false, false, true, false, true, false, true, false, true]; exact rfl; decide +kernel; exact rfl; intro R; refine ⟨_, (by (focus ((repeat (first | exact SelT.nil | apply SelT.yes | apply SelT.no)); done))), ?_⟩;
             (first | (apply EvW.fieldAddr0; exact rfl; exact FldC.eq)))
        first
          | (apply Par.skip; exact rfl; decide +kernel; exact rfl)
          | (apply Par.quiet _ [false, false, false, false, false, true, false, true, false, true, false, true]; exact rfl; decide +kernel; exact rfl; intro R; refine ⟨_, (by (focus ((repeat (first | exact SelT.nil | apply SelT.yes | apply SelT.no)); done))), ?_⟩;
             (first | (apply EvW.load; exact rfl; exact ScalC.eq; (focus ((repeat (first | exact Take.head | apply Take.tail)); done)); exact rfl)))
        first
          | (apply Par.skip; exact rfl; decide +kernel; exact rfl)
          | (apply Par.quiet _ [false, false, true, false, false, true, false, true, false, true, false, true]; exact rfl; decide +kernel; exact rfl; intro R; refine ⟨_, (by (focus ((repeat (first | exact SelT.nil | apply SelT.yes | apply SelT.no)); done))), ?_⟩;
             (first | (apply EvW.cmpT; exact rfl; exact rfl; exact rfl; omega)))
        (apply Par.quiet _ [false, false, true, false, false, true, false, true, false, true, false, true]; exact rfl; decide +kernel; exact rfl; intro R; refine ⟨_, (by (focus ((repeat (first | exact SelT.nil | apply SelT.yes | apply SelT.no)); done))), ?_⟩;
             (first | (apply EvW.pickT; exact rfl; exact rfl)))
        (apply Par.quiet _ [false, false, true, false, false, true, false, true, false, true, false, true]; exact rfl; decide +kernel; exact rfl; intro R; refine ⟨_, (by (focus ((repeat (first | exact SelT.nil | apply SelT.yes | apply SelT.no)); done))), ?_⟩;
             (first | (apply EvW.move; exact rfl)))
        first
          | (apply Par.skip; exact rfl; decide +kernel; exact rfl)
          | (apply Par.quiet _ [false, false, true, false, false, true, false, true, false, true, false, true]; exact rfl; decide +kernel; exact rfl; intro R; refine ⟨_, (by (focus ((repeat (first | exact SelT.nil | apply SelT.yes | apply SelT.no)); done))), ?_⟩;
             (first | (apply EvW.move; exact rfl)))
        first
          | (apply Par.skip; exact rfl; decide +kernel; exact rfl)
          | (apply Par.quiet _ [false, false, true, false, false, true, false, true, false, true, false, true]; exact rfl; decide +kernel; exact rfl; intro R; refine ⟨_, (by (focus ((repeat (first | exact SelT.nil | apply SelT.yes | apply SelT.no)); done))), ?_⟩;
             (first | (apply EvW.move; exact rfl)))
        apply Par.eff _ [false, false, true, false, false, false, false, false, false, false, false, false] [false, false, false, true, false, false, false, false, false, false, false, false] [false, false, false, false, false, true, false, true, false, true, false, true]
        · exact rfl
        · exact rfl
        · decide +kernel
        · intro R
          refine ⟨_, _, _, (by (focus ((repeat (first | exact SelT.nil | apply SelT.yes | apply SelT.no)); done))), (by (focus ((repeat (first | exact SelT.nil | apply SelT.yes | apply SelT.no)); done))), (by (focus ((repeat (first | exact SelT.nil | apply SelT.yes | apply SelT.no)); done))), ?_⟩
          apply EffW.callT
          · exact rfl
          · exact fun w1 S1 hS1 hs1 ho1 => bareOf_spec b o m K p w1 S1 hS1 hm
          · exact fun w => Try.call13 _ w
          · (focus ((repeat (first | exact TakeL.nil | apply TakeL.cons | exact Take.head | apply Take.tail)); done))
          · exact fun _ _ h => h
          · exact fun _ h => TakeT.st (by (focus ((repeat (first | exact TakeT.tail | apply TakeT.cons | exact Take.head | apply Take.tail | apply TakeT.drop)); done))) h
        first
          | (apply Par.skip; exact rfl; decide +kernel; exact rfl)
          | (apply Par.quiet _ [false, false, false, false, false, true, false, true, false, true, false, true]; exact rfl; decide +kernel; exact rfl; intro R; refine ⟨_, (by (focus ((repeat (first | exact SelT.nil | apply SelT.yes | apply SelT.no)); done))), ?_⟩;
             (first | (apply EvW.move; exact rfl)))
        first
          | (apply Par.skip; exact rfl; decide +kernel; exact rfl)
          | (apply Par.quiet _ [false, false, false, false, false, true, false, true, false, true, false, true]; exact rfl; decide +kernel; exact rfl; intro R; refine ⟨_, (by (focus ((repeat (first | exact SelT.nil | apply SelT.yes | apply SelT.no)); done))), ?_⟩;
             (first | (apply EvW.move; exact rfl)))
        apply Par.eff _ [false, false, false, false, false, true, false, true, false, true, false, false] [false, false, false, false, false, false, true, false, true, false, true, false] [false, false, false, true, false, false, false, false, false, false, false, true]
        · exact rfl
        · exact rfl
        · decide +kernel
        · intro R
          refine ⟨_, _, _, (by (focus ((repeat (first | exact SelT.nil | apply SelT.yes | apply SelT.no)); done))), (by (focus ((repeat (first | exact SelT.nil | apply SelT.yes | apply SelT.no)); done))), (by (focus ((repeat (first | exact SelT.nil | apply SelT.yes | apply SelT.no)); done))), ?_⟩
          apply EffW.callT
          · exact rfl
          · exact fun w1 S1 hS1 hs1 ho1 => rbareO_spec r bv wv cv pgs m K false p w1 S1 hS1 hm hP hd
          · exact fun w => Try.call34 _ w
          · (focus ((repeat (first | exact TakeL.nil | apply TakeL.cons | exact Take.head | apply Take.tail)); done))
          · exact fun _ _ h => h
          · exact fun _ h => TakeT.st (by (focus ((repeat (first | exact TakeT.tail | apply TakeT.cons | exact Take.head | apply Take.tail | apply TakeT.drop)); done))) h
        first
          | (apply Par.skip; exact rfl; decide +kernel; exact rfl)
          | (apply Par.quiet _ [false, false, false, true, false, false, true, false, true, false, true, true]; exact rfl; decide +kernel; exact rfl; intro R; refine ⟨_, (by (focus ((repeat (first | exact SelT.nil | apply SelT.yes | apply SelT.no)); done))), ?_⟩;
             (first | (apply EvW.cmpT; exact rfl; exact rfl; exact rfl; omega)))
        (apply Par.quiet _ [false, false, false, true, false, false, true, false, true, false, true, true]; exact rfl; decide +kernel; exact rfl; intro R; refine ⟨_, (by (focus ((repeat (first | exact SelT.nil | apply SelT.yes | apply SelT.no)); done))), ?_⟩;
             (first | (apply EvW.pickT; exact rfl; exact rfl)))
        (apply Par.quiet _ [false, false, false, true, false, false, true, false, true, false, true, true]; exact rfl; decide +kernel; exact rfl; intro R; refine ⟨_, (by (focus ((repeat (first | exact SelT.nil | apply SelT.yes | apply SelT.no)); done))), ?_⟩;
             (first | (apply EvW.move; exact rfl)))
        first
          | (apply Par.skip; exact rfl; decide +kernel; exact rfl)
          | (apply Par.quiet _ [false, false, false, true, false, false, true, false, true, false, true, true]; exact rfl; decide +kernel; exact rfl; intro R; refine ⟨_, (by (focus ((repeat (first | exact SelT.nil | apply SelT.yes | apply SelT.no)); done))), ?_⟩;
             (first | (apply EvW.move; exact rfl)))
        first
          | (apply Par.skip; exact rfl; decide +kernel; exact rfl)
          | (apply Par.quiet _ [false, false, false, true, false, false, true, false, true, false, true, true]; exact rfl; decide +kernel; exact rfl; intro R; refine ⟨_, (by (focus ((repeat (first | exact SelT.nil | apply SelT.yes | apply SelT.no)); done))), ?_⟩;
             (first | (apply EvW.move; exact rfl)))
        apply Par.eff _ [false, false, false, true, false, false, false, false, false, false, false, false] [false, false, false, false, true, false, false, false, false, false, false, false] [false, false, false, false, false, false, true, false, true, false, true, true]
        · exact rfl
        · exact rfl
        · decide +kernel
        · intro R
          refine ⟨_, _, _, (by (focus ((repeat (first | exact SelT.nil | apply SelT.yes | apply SelT.no)); done))), (by (focus ((repeat (first | exact SelT.nil | apply SelT.yes | apply SelT.no)); done))), (by (focus ((repeat (first | exact SelT.nil | apply SelT.yes | apply SelT.no)); done))), ?_⟩
          apply EffW.callT
          · exact rfl
          · exact fun w1 S1 hS1 hs1 ho1 => (by have h := worn_spec b o m K p w1 S1 hS1 hm; rw [hw] at h; exact h)
          · exact fun w => Try.call27 _ w
          · (focus ((repeat (first | exact TakeL.nil | apply TakeL.cons | exact Take.head | apply Take.tail)); done))
          · exact fun _ _ h => h
          · exact fun _ h => TakeT.st (by (focus ((repeat (first | exact TakeT.tail | apply TakeT.cons | exact Take.head | apply Take.tail | apply TakeT.drop)); done))) h
        first
          | (apply Par.skip; exact rfl; decide +kernel; exact rfl)
          | (apply Par.quiet _ [false, false, false, false, false, false, true, false, true, false, true, true]; exact rfl; decide +kernel; exact rfl; intro R; refine ⟨_, (by (focus ((repeat (first | exact SelT.nil | apply SelT.yes | apply SelT.no)); done))), ?_⟩;
             (first | (apply EvW.move; exact rfl)))
        first
          | (apply Par.skip; exact rfl; decide +kernel; exact rfl)
          | (apply Par.quiet _ [false, false, false, false, true, false, true, false, true, false, true, true]; exact rfl; decide +kernel; exact rfl; intro R; refine ⟨_, (by (focus ((repeat (first | exact SelT.nil | apply SelT.yes | apply SelT.no)); done))), ?_⟩;
             (first | (apply EvW.cmpT; exact rfl; exact rfl; exact rfl; omega)))
        (apply Par.quiet _ [false, false, false, false, true, false, true, false, true, false, true, true]; exact rfl; decide +kernel; exact rfl; intro R; refine ⟨_, (by (focus ((repeat (first | exact SelT.nil | apply SelT.yes | apply SelT.no)); done))), ?_⟩;
             (first | (apply EvW.pickT; exact rfl; exact rfl)))
        (apply Par.quiet _ [false, false, false, false, true, false, true, false, true, false, true, true]; exact rfl; decide +kernel; exact rfl; intro R; refine ⟨_, (by (focus ((repeat (first | exact SelT.nil | apply SelT.yes | apply SelT.no)); done))), ?_⟩;
             (first | (apply EvW.assign; exact rfl)))
        exact Par.nil
      · repeat (first | exact AllN.nil | (apply AllN.cons; (intro c x; (repeat (first | exact IndA.nil | (apply IndA.skip; decide +kernel) | apply IndA.same))))) 
      · repeat (first | exact AllN.nil | (apply AllN.cons; (intro c x; (repeat (first | exact IndT.nil | (apply IndT.skip; decide +kernel) | apply IndT.same))))) 
      · exact fun _ => rfl
      intro c
      refine ⟨_, (by (focus ((repeat (first | exact SelT.nil | apply SelT.yes | apply SelT.no)); done))), ?_⟩
      apply WE.writ
      · (focus ((repeat (first | exact Writ.nil | apply Writ.some | apply Writ.none)); done))
      repeat first
        | refine WE.next ?_ | refine WC.ret ?_
      refine WE.ret1 rfl rfl ?_
      exact ⟨rfl, rfl⟩
/-- The cuts that both memories have, of the acts from a number on. -/
def Alike (mp : List (Int × Value)) (cs : List Cut) (a : Int) : Prop := mdist mp ∧ ∀ k, a ≤ k → mget k mp = (cutAt k cs).map i64
theorem alike_nil : Alike [] [] 0 := ⟨trivial, fun _ _ => rfl⟩
theorem Alike.here {mp : List (Int × Value)} {cs : List Cut} {a : Int} (h : Alike mp cs a) : mget a mp = (cutAt a cs).map i64 := h.2 a (Int.le_refl _)
theorem Alike.next {mp : List (Int × Value)} {cs : List Cut} {a : Int} (h : Alike mp cs a) : Alike (mdel a mp) cs (a + 1) := ⟨mdist_del a mp h.1, fun k hk => by
  rw [mget_del a k mp h.1, if_neg (by omega)]
  exact h.2 k (by omega)⟩
theorem arm_get (cs : List Cut) (k : Int) : mget k (armM cs) = (cutAt k cs).map i64 := by
  have key : ∀ (cs : List Cut) (m : List (Int × Value)) (o : Option Int), mget k m = o.map i64 → Ints m → mget k (cs.foldl armStep m) = (cs.foldl (cutStep k) o).map i64 := by
    intro cs
    induction cs with
    | nil => intro m o h _; exact h
    | cons c r ih =>
      intro m o h hI
      rw [List.foldl_cons, List.foldl_cons]
      by_cases hc : c.at' = k
      · subst hc
        cases o with
        | none =>
          have h' : mget c.at' m = none := h
          rw [arm_none h']
          refine ih _ _ ?_ (ints_put hI _ _)
          rw [mget_put, if_pos rfl]
          unfold cutStep
          rw [if_pos rfl]; rfl
        | some q =>
          have h' : mget c.at' m = some (i64 q) := h
          by_cases hq : c.part < q
          · rw [arm_less h' hq]
            refine ih _ _ ?_ (ints_put hI _ _)
            rw [mget_put, if_pos rfl]
            unfold cutStep
            rw [if_pos rfl]
            show _ = Option.map i64 (some (if c.part < q then c.part else q))
            rw [if_pos hq]; rfl
          · rw [arm_more h' hq]
            refine ih _ _ ?_ hI
            rw [h']
            unfold cutStep
            rw [if_pos rfl]
            show _ = Option.map i64 (some (if c.part < q then c.part else q))
            rw [if_neg hq]; rfl
      · have e : cutStep k o c = o := by unfold cutStep; rw [if_neg hc]
        rw [e]
        have hs : mget k (armStep m c) = mget k m ∧ Ints (armStep m c) := by
          cases hg : mget c.at' m with
          | none => rw [arm_none hg]; exact ⟨by rw [mget_put, if_neg (fun e => hc e.symm)], ints_put hI _ _⟩
          | some g =>
            obtain ⟨q, rfl⟩ := hI _ _ hg
            by_cases hq : c.part < q
            · rw [arm_less hg hq]; exact ⟨by rw [mget_put, if_neg (fun e => hc e.symm)], ints_put hI _ _⟩
            · rw [arm_more hg hq]; exact ⟨rfl, hI⟩
        exact ih _ _ (by rw [hs.1]; exact h) hs.2
  exact key cs [] none rfl (fun k v h => absurd h (by simp [mget]))
theorem arm_dist (cs : List Cut) : mdist (armM cs) := by
  have key : ∀ (cs : List Cut) (m : List (Int × Value)), mdist m → mdist (cs.foldl armStep m) := by
    intro cs
    induction cs with
    | nil => exact fun _ h => h
    | cons c r ih =>
      intro m h
      refine ih _ ?_
      unfold armStep
      split
      · split
        · exact mdist_put _ _ _ h
        · exact h
      · exact mdist_put _ _ _ h
  exact key cs [] trivial
theorem arm_alike (cs : List Cut) : Alike (armM cs) cs 0 := ⟨arm_dist cs, fun k _ => arm_get cs k⟩
end Go.Proofs.Ytakffjjnogpolaa
