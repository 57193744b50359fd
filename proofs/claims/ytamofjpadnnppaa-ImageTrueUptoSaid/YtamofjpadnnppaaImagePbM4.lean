/- Own lemmas: the texts LinkB, LinkC, LibT, LibV, LibW, LibY, ImageA, ImageB, ImageC, LibZ, TeleB, TeleC, ImageD, ImageE. -/
import Derived.MapKept
import Derived.Test.YtamofjpadnnppaaImagePbM3
namespace Go.Proofs.Ytamofjpadnnppaa
open Go.RowKit Go.BK
/-- A receiver: the last stamp, how many were lost, the last number, the peer, the age. -/
structure Rcv where
  last : Int
  lost : Int
  num : Int
  peer : Int
  age : Int
def Rcv.new (p a : Int) : Rcv := ⟨-1, 0, 0, p, a⟩
def Rcv.note (m : Rcv) (n s : Int) : Rcv := if 0 ≤ m.last then { m with last := s, num := (lostStep (m.num, m.lost) n).1, lost := (lostStep (m.num, m.lost) n).2 } else { m with last := s, num := n }
def takeF (m : Rcv) (now : Int) (r : Said × Int) : Rcv × List UInt8 × Int :=
  if r.2 ≠ 0 then (m, [], r.2) else if r.1.p ≠ m.peer then (m, [], 16) else if now < r.1.s then (m, [], 19) else if m.age < now - r.1.s then (m, [], 17) else if r.1.s ≤ m.last then (m, [], 18) else (m.note r.1.n r.1.s, r.1.t, 0)
structure Said.small (x : Said) : Prop where
  p : 0 ≤ x.p ∧ x.p < 256
  n : 0 ≤ x.n ∧ x.n < 65536
  s : 0 ≤ x.s ∧ x.s < 4294967296
  t : x.t.length ≤ 1000
theorem num_bd (m : PR) (k : Nat) : 0 ≤ (m.num k).1 ∧ (m.num k).1 < 256 ^ k := by
  have h := numOf_bd (m.take 0 k).1
  have hl := PR.take_len m 0 k
  refine ⟨h.1, Int.lt_of_lt_of_le h.2 ?_⟩
  show (256 : Int) ^ (m.take 0 k).1.length ≤ 256 ^ k
  have e : ∀ j : Nat, (256 : Int) ^ j = ((256 ^ j : Nat) : Int) := fun j => by rw [Int.natCast_pow]; rfl
  rw [e, e]
  exact Int.ofNat_le.2 (Nat.pow_le_pow_right (by decide) hl)
theorem readF_small {l : List UInt8} {x : Said} {e : Int} (h : readF l = (x, e)) : x.small := by
  unfold readF at h
  have hn : Said.none.small := ⟨by decide, by decide, by decide, by decide⟩
  split at h
  · cases h; exact hn
  split at h
  · cases h; exact hn
  split at h
  · cases h; exact hn
  rename_i h1 h2 h3
  cases h
  exact ⟨by simpa [r1] using num_bd (PR.mk 0 (openF l).1) 1, by simpa [r2] using num_bd (r1 (openF l).1).2 2, by simpa [r3] using num_bd (r2 (openF l).1).2 4, by simp only [List.length_drop]; omega⟩
theorem lost_two (a n : Int) : lost [a, n] = if 0 < sg a n then sg a n - 1 else 0 := by
  simp only [lost, List.foldl_cons, List.foldl_nil, lostStep]
  split <;> simp
theorem sg_self (a : Int) : sg a a = 0 := by unfold sg; omega
theorem note_spec' (b : Nat) (m : Rcv) (n s : Int) (w : World) (S : BSet) (hS : (sepL [.blk b #[i64 (m).last, i64 (m).lost, i64 (m).num, i64 (m).peer, i64 (m).age] 85]).sat S w) (h0 : 0 ≤ m.lost) (h1 : m.lost ≤ 4611686018427387904) :
    Tri Try.prog 58 #[ptr b 0, i64 n, i64 s] w S fun u A => u = .tuple #[] ∧ A = [.blk b #[i64 (m.note n s).last, i64 (m.note n s).lost, i64 (m.note n s).num, i64 (m.note n s).peer, i64 (m.note n s).age] 85] := by
  refine Tri.enter (l := [ptr b 0, i64 n, i64 s]) Try.func58 rfl Try.ntmps58 rfl [(0, ptr b 0), (1, i64 n), (2, i64 s)] (subA rfl) hS ?_
  have hg := sg_bd m.num n
  have hlt := lost_two m.num n
  have hls := lost_two m.num m.num
  rw [sg_self, if_neg (by decide)] at hls
  unfold Rcv.note lostStep
  by_cases hl : 0 ≤ m.last
  · rw [if_pos hl]
    by_cases hn : 0 < sg m.num n
    · rw [if_pos hn] at hlt ⊢
      repeat first
        | (apply WL.q; exact rfl; exact rfl; exact rfl; (first | (apply EvW.move; exact rfl) | (apply EvW.nilPtr; exact rfl) | (apply EvW.fieldAddr0; exact rfl; exact FldC.eq) | (apply EvW.load; exact rfl; exact ScalC.eq; (focus ((repeat constructor); done)); exact rfl) | (apply EvW.cmpT; exact rfl; exact rfl; exact rfl; omega)))
        | refine WC.seq ?_ | refine WC.region ?_ | refine WL.wanted rfl rfl rfl ?_
      try refine WL.wanted rfl rfl rfl ?_
      apply WL.callA ([])
      · exact rfl
      · exact rfl
      · exact fun w => Try.call75 _ w
      · (focus ((repeat constructor); done))
      · exact fun w1 S1 hS1 hs1 ho1 => sq_newer_spec m.num n w1 S1 hS1
      rintro _ _ ⟨rfl, rfl⟩
      first | refine WL.app4 ?_ | refine WL.app3 ?_ | refine WL.app2 ?_ | refine WL.app1 ?_ | refine WL.app0 ?_ | skip
      rw [decide_eq_true hn]
      repeat first
        | (apply WL.q; exact rfl; exact rfl; exact rfl; (first | (apply EvW.move; exact rfl) | (apply EvW.nilPtr; exact rfl) | (apply EvW.fieldAddr0; exact rfl; exact FldC.eq) | (apply EvW.load; exact rfl; exact ScalC.eq; (focus ((repeat constructor); done)); exact rfl) | (apply EvW.cmpT; exact rfl; exact rfl; exact rfl; omega) | (apply EvW.pickT; exact rfl; exact rfl) | (apply EvW.notT; exact rfl)))
        | refine WC.seq ?_ | refine WC.region ?_ | refine WL.nil ?_ | refine WE.next ?_ | refine WC.skip ?_ | refine WC.condT rfl ?_ | refine WC.condF rfl ?_ | refine WL.wanted rfl rfl rfl ?_
      repeat refine WC.seq ?_
      refine WC.keep (xs := [.blk b #[i64 (m).last, i64 (m).lost, i64 (m).num, i64 (m).peer, i64 (m).age] 85]) (by repeat constructor) ?_
      apply WC.par _ (fun c : Ch => [.blk b #[i64 (m).last, i64 (m).lost, i64 (m).num, i64 (m).peer, i64 (m).age] 85, .blk b #[i64 m.last, i64 (m.lost + lost [m.num, n]), i64 m.num, i64 m.peer, i64 m.age] 85, .blk (c 9).1 #[i64 m.num, i64 n] 3]) [none, some 14, some 9] [some 14, none, none] [(9, fun x => .slice (some ⟨x.1, 0, none⟩) 2 2)] Try.mixed
      · (focus ((repeat (first | exact Restr.nil | (apply Restr.keep; exact rfl; exact rfl) | (apply Restr.drop; exact rfl))); done))
      · intro c; exact (by repeat constructor)
      · exact rfl
      · decide +kernel
      · decide +kernel
      · intro c
        (apply Par.quiet _ [true, false, false]; exact rfl; decide +kernel; exact rfl; intro R; refine ⟨_, (by repeat constructor), ?_⟩;
             (first | (apply EvW.move; exact rfl)))
        (apply Par.quiet _ [true, false, false]; exact rfl; decide +kernel; exact rfl; intro R; refine ⟨_, (by repeat constructor), ?_⟩;
             (first | (apply EvW.nilPtr; exact rfl)))
        (apply Par.quiet _ [true, false, false]; exact rfl; decide +kernel; exact rfl; intro R; refine ⟨_, (by repeat constructor), ?_⟩;
             (first | (apply EvW.fieldAddr0; exact rfl; exact FldC.eq)))
        (apply Par.quiet _ [true, false, false]; exact rfl; decide +kernel; exact rfl; intro R; refine ⟨_, (by repeat constructor), ?_⟩;
             (first | (apply EvW.load; exact rfl; exact ScalC.eq; (focus ((repeat constructor); done)); exact rfl)))
        (apply Par.quiet _ [true, false, false]; exact rfl; decide +kernel; exact rfl; intro R; refine ⟨_, (by repeat constructor), ?_⟩;
             (first | (apply EvW.move; exact rfl)))
        (apply Par.quiet _ [true, false, false]; exact rfl; decide +kernel; exact rfl; intro R; refine ⟨_, (by repeat constructor), ?_⟩;
             (first | (apply EvW.nilPtr; exact rfl)))
        (apply Par.quiet _ [true, false, false]; exact rfl; decide +kernel; exact rfl; intro R; refine ⟨_, (by repeat constructor), ?_⟩;
             (first | (apply EvW.fieldAddr0; exact rfl; exact FldC.eq)))
        (apply Par.quiet _ [true, false, false]; exact rfl; decide +kernel; exact rfl; intro R; refine ⟨_, (by repeat constructor), ?_⟩;
             (first | (apply EvW.load; exact rfl; exact ScalC.eq; (focus ((repeat constructor); done)); exact rfl)))
        (apply Par.quiet _ [true, false, false]; exact rfl; decide +kernel; exact rfl; intro R; refine ⟨_, (by repeat constructor), ?_⟩;
             (first | (apply EvW.move; exact rfl)))
        (apply Par.new _ [false, false, false] [false, false, true] [true, false, false]; exact rfl; exact rfl; decide +kernel; intro R; refine ⟨_, _, _, (by repeat constructor), (by repeat constructor), (fun x => (by repeat constructor)), ?_⟩; (apply NewW.buildSlice; exact UndC.eq; exact SzC.eq; exact ZvC.eq; exact rfl; exact rfl; exact rfl; (focus ((repeat (first | exact Flat.nil | (apply Flat.one; (first | exact rfl | assumption)) | (apply Flat.cons; exact rfl; exact rfl))); done)); exact rfl; exact rfl; exact fun _ => rfl))
        apply Par.quiet _ [true, false, true]
        · exact rfl
        · decide +kernel
        · exact rfl
        · intro R
          refine ⟨_, (by repeat constructor), ?_⟩
          apply EvW.callK ([])
          · exact rfl
          · exact fun w => Try.call76 _ w
          · (focus ((repeat constructor); done))
          · exact fun w1 S1 hS1 hs1 ho1 => sq_lost_spec _ [m.num, n] w1 S1 hS1 ((ho1 _ _ (by repeat constructor)).blkRow rfl (fun k u h => by simpa using h) (by simp)) (by simp)
          · exact fun _ _ h => h
        (apply Par.quiet _ [true, false, true]; exact rfl; decide +kernel; exact rfl; intro R; refine ⟨_, (by repeat constructor), ?_⟩;
             (first | (apply EvW.arN; exact rfl; exact rfl; exact rfl; refine i64_in ?_ ?_ <;> omega)))
        (apply Par.quiet _ [true, false, true]; exact rfl; decide +kernel; exact rfl; intro R; refine ⟨_, (by repeat constructor), ?_⟩;
             (first | (apply EvW.nilPtr; exact rfl)))
        (apply Par.quiet _ [true, false, true]; exact rfl; decide +kernel; exact rfl; intro R; refine ⟨_, (by repeat constructor), ?_⟩;
             (first | (apply EvW.fieldAddr0; exact rfl; exact FldC.eq)))
        (apply Par.eff _ [true, false, false] [false, true, false] [false, false, true]; exact rfl; exact rfl; decide +kernel; intro R; refine ⟨_, _, _, (by repeat constructor), (by repeat constructor), (by repeat constructor), ?_⟩; (apply EffW.store; exact rfl; exact rfl; (first | assumption | exact rfl); exact SzC.eq; (first | assumption | exact rfl); (focus ((repeat constructor); done))))
        exact Par.nil
      · repeat (first | exact AllN.nil | (apply AllN.cons; (intro c x; (repeat (first | exact IndA.nil | (apply IndA.skip; decide +kernel) | apply IndA.same))))) 
      · repeat (first | exact AllN.nil | (apply AllN.cons; (intro c x; (repeat (first | exact IndT.nil | (apply IndT.skip; decide +kernel) | apply IndT.same))))) 
      · exact fun _ => rfl
      intro c
      refine ⟨_, (by repeat constructor), ?_⟩
      apply WE.writ
      · (focus ((repeat (first | exact Writ.nil | apply Writ.some | apply Writ.none)); done))
      generalize (c 9).1 = b9
      rw [hlt]
      repeat first
        | (apply WL.q; exact rfl; exact rfl; exact rfl; (first | (apply EvW.move; exact rfl) | (apply EvW.nilPtr; exact rfl) | (apply EvW.fieldAddr0; exact rfl; exact FldC.eq)))
        | refine WC.region ?_ | refine WL.nil ?_ | refine WE.next ?_ | (apply WL.store; exact rfl; exact rfl; (first | assumption | exact rfl); exact SzC.eq; (first | assumption | exact rfl); (focus ((repeat constructor); done)))
      refine WE.keep (xs := [.blk b #[i64 (Rcv.mk s (m.lost + (sg m.num n - 1)) n m.peer m.age).last, i64 (Rcv.mk s (m.lost + (sg m.num n - 1)) n m.peer m.age).lost, i64 (Rcv.mk s (m.lost + (sg m.num n - 1)) n m.peer m.age).num, i64 (Rcv.mk s (m.lost + (sg m.num n - 1)) n m.peer m.age).peer, i64 (Rcv.mk s (m.lost + (sg m.num n - 1)) n m.peer m.age).age] 85]) (by repeat constructor) ?_
      first | refine WE.end0 rfl ?_ | refine WE.ret0 rfl ?_
      exact ⟨rfl, rfl⟩
    · rw [if_neg hn]
      repeat first
        | (apply WL.q; exact rfl; exact rfl; exact rfl; (first | (apply EvW.move; exact rfl) | (apply EvW.nilPtr; exact rfl) | (apply EvW.fieldAddr0; exact rfl; exact FldC.eq) | (apply EvW.load; exact rfl; exact ScalC.eq; (focus ((repeat constructor); done)); exact rfl) | (apply EvW.cmpT; exact rfl; exact rfl; exact rfl; omega)))
        | refine WC.seq ?_ | refine WC.region ?_ | refine WL.wanted rfl rfl rfl ?_
      try refine WL.wanted rfl rfl rfl ?_
      apply WL.callA ([])
      · exact rfl
      · exact rfl
      · exact fun w => Try.call75 _ w
      · (focus ((repeat constructor); done))
      · exact fun w1 S1 hS1 hs1 ho1 => sq_newer_spec m.num n w1 S1 hS1
      rintro _ _ ⟨rfl, rfl⟩
      first | refine WL.app4 ?_ | refine WL.app3 ?_ | refine WL.app2 ?_ | refine WL.app1 ?_ | refine WL.app0 ?_ | skip
      rw [decide_eq_false hn]
      repeat first
        | (apply WL.q; exact rfl; exact rfl; exact rfl; (first | (apply EvW.move; exact rfl) | (apply EvW.assign; exact rfl) | (apply EvW.nilPtr; exact rfl) | (apply EvW.fieldAddr0; exact rfl; exact FldC.eq) | (apply EvW.load; exact rfl; exact ScalC.eq; (focus ((repeat constructor); done)); exact rfl) | (apply EvW.cmpT; exact rfl; exact rfl; exact rfl; omega) | (apply EvW.pickT; exact rfl; exact rfl) | (apply EvW.notF; exact rfl)))
        | refine WC.seq ?_ | refine WC.region ?_ | refine WL.nil ?_ | refine WE.next ?_ | refine WC.condT rfl ?_ | refine WL.wanted rfl rfl rfl ?_
      repeat refine WC.seq ?_
      refine WC.keep (xs := [.blk b #[i64 (m).last, i64 (m).lost, i64 (m).num, i64 (m).peer, i64 (m).age] 85]) (by repeat constructor) ?_
      apply WC.par _ (fun c : Ch => [.blk b #[i64 (m).last, i64 (m).lost, i64 (m).num, i64 (m).peer, i64 (m).age] 85, .blk b #[i64 m.last, i64 (m.lost + lost [m.num, m.num]), i64 m.num, i64 m.peer, i64 m.age] 85, .blk (c 9).1 #[i64 m.num, i64 m.num] 3]) [none, some 14, some 9] [some 14, none, none] [(9, fun x => .slice (some ⟨x.1, 0, none⟩) 2 2)] Try.mixed
      · (focus ((repeat (first | exact Restr.nil | (apply Restr.keep; exact rfl; exact rfl) | (apply Restr.drop; exact rfl))); done))
      · intro c; exact (by repeat constructor)
      · exact rfl
      · decide +kernel
      · decide +kernel
      · intro c
        (apply Par.quiet _ [true, false, false]; exact rfl; decide +kernel; exact rfl; intro R; refine ⟨_, (by repeat constructor), ?_⟩;
             (first | (apply EvW.move; exact rfl)))
        (apply Par.quiet _ [true, false, false]; exact rfl; decide +kernel; exact rfl; intro R; refine ⟨_, (by repeat constructor), ?_⟩;
             (first | (apply EvW.nilPtr; exact rfl)))
        (apply Par.quiet _ [true, false, false]; exact rfl; decide +kernel; exact rfl; intro R; refine ⟨_, (by repeat constructor), ?_⟩;
             (first | (apply EvW.fieldAddr0; exact rfl; exact FldC.eq)))
        (apply Par.quiet _ [true, false, false]; exact rfl; decide +kernel; exact rfl; intro R; refine ⟨_, (by repeat constructor), ?_⟩;
             (first | (apply EvW.load; exact rfl; exact ScalC.eq; (focus ((repeat constructor); done)); exact rfl)))
        (apply Par.quiet _ [true, false, false]; exact rfl; decide +kernel; exact rfl; intro R; refine ⟨_, (by repeat constructor), ?_⟩;
             (first | (apply EvW.move; exact rfl)))
        (apply Par.quiet _ [true, false, false]; exact rfl; decide +kernel; exact rfl; intro R; refine ⟨_, (by repeat constructor), ?_⟩;
             (first | (apply EvW.nilPtr; exact rfl)))
        (apply Par.quiet _ [true, false, false]; exact rfl; decide +kernel; exact rfl; intro R; refine ⟨_, (by repeat constructor), ?_⟩;
             (first | (apply EvW.fieldAddr0; exact rfl; exact FldC.eq)))
        (apply Par.quiet _ [true, false, false]; exact rfl; decide +kernel; exact rfl; intro R; refine ⟨_, (by repeat constructor), ?_⟩;
             (first | (apply EvW.load; exact rfl; exact ScalC.eq; (focus ((repeat constructor); done)); exact rfl)))
        (apply Par.quiet _ [true, false, false]; exact rfl; decide +kernel; exact rfl; intro R; refine ⟨_, (by repeat constructor), ?_⟩;
             (first | (apply EvW.move; exact rfl)))
        (apply Par.new _ [false, false, false] [false, false, true] [true, false, false]; exact rfl; exact rfl; decide +kernel; intro R; refine ⟨_, _, _, (by repeat constructor), (by repeat constructor), (fun x => (by repeat constructor)), ?_⟩; (apply NewW.buildSlice; exact UndC.eq; exact SzC.eq; exact ZvC.eq; exact rfl; exact rfl; exact rfl; (focus ((repeat (first | exact Flat.nil | (apply Flat.one; (first | exact rfl | assumption)) | (apply Flat.cons; exact rfl; exact rfl))); done)); exact rfl; exact rfl; exact fun _ => rfl))
        apply Par.quiet _ [true, false, true]
        · exact rfl
        · decide +kernel
        · exact rfl
        · intro R
          refine ⟨_, (by repeat constructor), ?_⟩
          apply EvW.callK ([])
          · exact rfl
          · exact fun w => Try.call76 _ w
          · (focus ((repeat constructor); done))
          · exact fun w1 S1 hS1 hs1 ho1 => sq_lost_spec _ [m.num, m.num] w1 S1 hS1 ((ho1 _ _ (by repeat constructor)).blkRow rfl (fun k u h => by simpa using h) (by simp)) (by simp)
          · exact fun _ _ h => h
        (apply Par.quiet _ [true, false, true]; exact rfl; decide +kernel; exact rfl; intro R; refine ⟨_, (by repeat constructor), ?_⟩;
             (first | (apply EvW.arN; exact rfl; exact rfl; exact rfl; refine i64_in ?_ ?_ <;> omega)))
        (apply Par.quiet _ [true, false, true]; exact rfl; decide +kernel; exact rfl; intro R; refine ⟨_, (by repeat constructor), ?_⟩;
             (first | (apply EvW.nilPtr; exact rfl)))
        (apply Par.quiet _ [true, false, true]; exact rfl; decide +kernel; exact rfl; intro R; refine ⟨_, (by repeat constructor), ?_⟩;
             (first | (apply EvW.fieldAddr0; exact rfl; exact FldC.eq)))
        (apply Par.eff _ [true, false, false] [false, true, false] [false, false, true]; exact rfl; exact rfl; decide +kernel; intro R; refine ⟨_, _, _, (by repeat constructor), (by repeat constructor), (by repeat constructor), ?_⟩; (apply EffW.store; exact rfl; exact rfl; (first | assumption | exact rfl); exact SzC.eq; (first | assumption | exact rfl); (focus ((repeat constructor); done))))
        exact Par.nil
      · repeat (first | exact AllN.nil | (apply AllN.cons; (intro c x; (repeat (first | exact IndA.nil | (apply IndA.skip; decide +kernel) | apply IndA.same))))) 
      · repeat (first | exact AllN.nil | (apply AllN.cons; (intro c x; (repeat (first | exact IndT.nil | (apply IndT.skip; decide +kernel) | apply IndT.same))))) 
      · exact fun _ => rfl
      intro c
      refine ⟨_, (by repeat constructor), ?_⟩
      apply WE.writ
      · (focus ((repeat (first | exact Writ.nil | apply Writ.some | apply Writ.none)); done))
      generalize (c 9).1 = b9
      rw [hls, Int.add_zero]
      repeat first
        | (apply WL.q; exact rfl; exact rfl; exact rfl; (first | (apply EvW.move; exact rfl) | (apply EvW.nilPtr; exact rfl) | (apply EvW.fieldAddr0; exact rfl; exact FldC.eq)))
        | refine WC.region ?_ | refine WL.nil ?_ | refine WE.next ?_ | (apply WL.store; exact rfl; exact rfl; (first | assumption | exact rfl); exact SzC.eq; (first | assumption | exact rfl); (focus ((repeat constructor); done)))
      refine WE.keep (xs := [.blk b #[i64 (Rcv.mk s m.lost m.num m.peer m.age).last, i64 (Rcv.mk s m.lost m.num m.peer m.age).lost, i64 (Rcv.mk s m.lost m.num m.peer m.age).num, i64 (Rcv.mk s m.lost m.num m.peer m.age).peer, i64 (Rcv.mk s m.lost m.num m.peer m.age).age] 85]) (by repeat constructor) ?_
      first | refine WE.end0 rfl ?_ | refine WE.ret0 rfl ?_
      exact ⟨rfl, rfl⟩
  · rw [if_neg hl]
    repeat first
      | (apply WL.q; exact rfl; exact rfl; exact rfl; (first | (apply EvW.move; exact rfl) | (apply EvW.nilPtr; exact rfl) | (apply EvW.fieldAddr0; exact rfl; exact FldC.eq) | (apply EvW.load; exact rfl; exact ScalC.eq; (focus ((repeat constructor); done)); exact rfl) | (apply EvW.cmpF; exact rfl; exact rfl; exact rfl; omega) | (apply EvW.pickF; exact rfl; exact rfl)))
      | refine WC.seq ?_ | refine WC.region ?_ | refine WL.nil ?_ | refine WE.next ?_ | refine WC.skip ?_ | refine WC.condF rfl ?_ | refine WL.unwanted rfl rfl rfl rfl ?_ | (apply WL.store; exact rfl; exact rfl; (first | assumption | exact rfl); exact SzC.eq; (first | assumption | exact rfl); (focus ((repeat constructor); done)))
    refine WE.keep (xs := [.blk b #[i64 (Rcv.mk s m.lost n m.peer m.age).last, i64 (Rcv.mk s m.lost n m.peer m.age).lost, i64 (Rcv.mk s m.lost n m.peer m.age).num, i64 (Rcv.mk s m.lost n m.peer m.age).peer, i64 (Rcv.mk s m.lost n m.peer m.age).age] 85]) (by repeat constructor) ?_
    first | refine WE.end0 rfl ?_ | refine WE.ret0 rfl ?_
    exact ⟨rfl, rfl⟩
theorem ltake_spec (b : Nat) (m : Rcv) (now : Int) (l : List UInt8) (x : Said) (e : Int) (w : World) (S : BSet) (hS : (sepL [.blk b #[i64 (m).last, i64 (m).lost, i64 (m).num, i64 (m).peer, i64 (m).age] 85]).sat S w) (hl : l.length ≤ 140737488355328) (h0 : 0 ≤ m.lost) (h1 : m.lost ≤ 4611686018427387904) (hw : now ≤ 9223372036854775807) (hr : readF l = (x, e)) :
    Tri Try.prog 29 #[ptr b 0, i64 now, str l] w S fun u A => u = .tuple #[str (takeF m now (x, e)).2.1, i64 (takeF m now (x, e)).2.2] ∧ A = [.blk b #[i64 ((takeF m now (x, e)).1).last, i64 ((takeF m now (x, e)).1).lost, i64 ((takeF m now (x, e)).1).num, i64 ((takeF m now (x, e)).1).peer, i64 ((takeF m now (x, e)).1).age] 85] := by
  refine Tri.enter (l := [ptr b 0, i64 now, str l]) Try.func29 rfl Try.ntmps29 rfl [(0, ptr b 0), (1, i64 now), (2, str l)] (subA rfl) hS ?_
  have hs := (readF_small hr).s
  unfold takeF
  dsimp only
  repeat first
    | (apply WL.q; exact rfl; exact rfl; exact rfl; (first | (apply EvW.move; exact rfl) | (apply EvW.assign; exact rfl)))
    | refine WC.seq ?_ | refine WC.region ?_ | refine WL.nil ?_ | refine WE.next ?_
  try refine WL.wanted rfl rfl rfl ?_
  apply WL.callA ([])
  · exact rfl
  · exact rfl
  · exact fun w => Try.call57 _ w
  · (focus ((repeat constructor); done))
  · exact fun w1 S1 hS1 hs1 ho1 => read_spec' l (x, e) w1 S1 hS1 hl hr
  rintro _ _ ⟨rfl, rfl⟩
  first | refine WL.app4 ?_ | refine WL.app3 ?_ | refine WL.app2 ?_ | refine WL.app1 ?_ | refine WL.app0 ?_ | skip
  dsimp only
  by_cases he : e = 0
  rotate_left
  · rw [if_pos he]
    repeat first
      | (apply WL.q; exact rfl; exact rfl; exact rfl; (first | (apply EvW.move; exact rfl) | (apply EvW.assign; exact rfl) | (apply EvW.extract; exact rfl; exact rfl) | (apply EvW.cmpT; exact rfl; exact rfl; exact rfl; omega)))
      | refine WC.seq ?_ | refine WC.region ?_ | refine WL.nil ?_ | refine WE.next ?_ | refine WC.block ?_ | refine WC.condT rfl ?_ | refine WC.ret ?_ | refine WE.passRet ?_ | refine WE.outRet ?_
    refine WE.retN (l := [6, 7]) rfl rfl rfl ?_
    exact ⟨rfl, rfl⟩
  rw [if_neg (fun h => h he)]
  by_cases hp : x.p = m.peer
  rotate_left
  · rw [if_pos hp]
    repeat first
      | (apply WL.q; exact rfl; exact rfl; exact rfl; (first | (apply EvW.move; exact rfl) | (apply EvW.assign; exact rfl) | (apply EvW.nilPtr; exact rfl) | (apply EvW.fieldAddr0; exact rfl; exact FldC.eq) | (apply EvW.load; exact rfl; exact ScalC.eq; (focus ((repeat constructor); done)); exact rfl) | (apply EvW.extract; exact rfl; exact rfl) | (apply EvW.cmpT; exact rfl; exact rfl; exact rfl; omega) | (apply EvW.cmpF; exact rfl; exact rfl; exact rfl; omega)))
      | refine WC.seq ?_ | refine WC.region ?_ | refine WL.nil ?_ | refine WE.next ?_ | refine WC.block ?_ | refine WC.condT rfl ?_ | refine WC.condF rfl ?_ | refine WC.ret ?_ | refine WE.passRet ?_ | refine WE.outRet ?_
    refine WE.retN (l := [6, 7]) rfl rfl rfl ?_
    exact ⟨rfl, rfl⟩
  rw [if_neg (fun h => h hp)]
  by_cases hn : now < x.s
  · rw [if_pos hn]
    repeat first
      | (apply WL.q; exact rfl; exact rfl; exact rfl; (first | (apply EvW.move; exact rfl) | (apply EvW.assign; exact rfl) | (apply EvW.nilPtr; exact rfl) | (apply EvW.fieldAddr0; exact rfl; exact FldC.eq) | (apply EvW.load; exact rfl; exact ScalC.eq; (focus ((repeat constructor); done)); exact rfl) | (apply EvW.extract; exact rfl; exact rfl) | (apply EvW.cmpT; exact rfl; exact rfl; exact rfl; omega) | (apply EvW.cmpF; exact rfl; exact rfl; exact rfl; omega)))
      | refine WC.seq ?_ | refine WC.region ?_ | refine WL.nil ?_ | refine WE.next ?_ | refine WC.block ?_ | refine WC.condT rfl ?_ | refine WC.condF rfl ?_ | refine WC.ret ?_ | refine WE.passRet ?_ | refine WE.outRet ?_
    refine WE.retN (l := [6, 7]) rfl rfl rfl ?_
    exact ⟨rfl, rfl⟩
  rw [if_neg hn]
  by_cases ha : m.age < now - x.s
  · rw [if_pos ha]
    repeat first
      | (apply WL.q; exact rfl; exact rfl; exact rfl; (first | (apply EvW.move; exact rfl) | (apply EvW.assign; exact rfl) | (apply EvW.nilPtr; exact rfl) | (apply EvW.fieldAddr0; exact rfl; exact FldC.eq) | (apply EvW.load; exact rfl; exact ScalC.eq; (focus ((repeat constructor); done)); exact rfl) | (apply EvW.extract; exact rfl; exact rfl) | (apply EvW.cmpT; exact rfl; exact rfl; exact rfl; omega) | (apply EvW.cmpF; exact rfl; exact rfl; exact rfl; omega) | (apply EvW.arN; exact rfl; exact rfl; exact rfl; refine i64_in ?_ ?_ <;> omega)))
      | refine WC.seq ?_ | refine WC.region ?_ | refine WL.nil ?_ | refine WE.next ?_ | refine WC.block ?_ | refine WC.condT rfl ?_ | refine WC.condF rfl ?_ | refine WC.ret ?_ | refine WE.passRet ?_ | refine WE.outRet ?_
    refine WE.retN (l := [6, 7]) rfl rfl rfl ?_
    exact ⟨rfl, rfl⟩
  rw [if_neg ha]
  by_cases hz : x.s ≤ m.last
  · rw [if_pos hz]
    repeat first
      | (apply WL.q; exact rfl; exact rfl; exact rfl; (first | (apply EvW.move; exact rfl) | (apply EvW.assign; exact rfl) | (apply EvW.nilPtr; exact rfl) | (apply EvW.fieldAddr0; exact rfl; exact FldC.eq) | (apply EvW.load; exact rfl; exact ScalC.eq; (focus ((repeat constructor); done)); exact rfl) | (apply EvW.extract; exact rfl; exact rfl) | (apply EvW.cmpT; exact rfl; exact rfl; exact rfl; omega) | (apply EvW.cmpF; exact rfl; exact rfl; exact rfl; omega) | (apply EvW.arN; exact rfl; exact rfl; exact rfl; refine i64_in ?_ ?_ <;> omega)))
      | refine WC.seq ?_ | refine WC.region ?_ | refine WL.nil ?_ | refine WE.next ?_ | refine WC.block ?_ | refine WC.condT rfl ?_ | refine WC.condF rfl ?_ | refine WC.ret ?_ | refine WE.passRet ?_ | refine WE.outRet ?_
    refine WE.retN (l := [6, 7]) rfl rfl rfl ?_
    exact ⟨rfl, rfl⟩
  rw [if_neg hz]
  repeat first
    | (apply WL.q; exact rfl; exact rfl; exact rfl; (first | (apply EvW.move; exact rfl) | (apply EvW.assign; exact rfl) | (apply EvW.nilPtr; exact rfl) | (apply EvW.fieldAddr0; exact rfl; exact FldC.eq) | (apply EvW.load; exact rfl; exact ScalC.eq; (focus ((repeat constructor); done)); exact rfl) | (apply EvW.extract; exact rfl; exact rfl) | (apply EvW.cmpF; exact rfl; exact rfl; exact rfl; omega) | (apply EvW.arN; exact rfl; exact rfl; exact rfl; refine i64_in ?_ ?_ <;> omega)))
    | refine WC.seq ?_ | refine WC.region ?_ | refine WL.nil ?_ | refine WE.next ?_ | refine WC.block ?_ | refine WC.skip ?_ | refine WE.out ?_ | refine WC.condF rfl ?_
  try refine WL.wanted rfl rfl rfl ?_
  apply WL.callA ([.blk b #[i64 (m).last, i64 (m).lost, i64 (m).num, i64 (m).peer, i64 (m).age] 85])
  · exact rfl
  · exact rfl
  · exact fun w => Try.call58 _ w
  · (focus ((repeat constructor); done))
  · exact fun w1 S1 hS1 hs1 ho1 => note_spec' b m x.n x.s w1 S1 hS1 h0 h1
  rintro _ _ ⟨rfl, rfl⟩
  first | refine WL.app4 ?_ | refine WL.app3 ?_ | refine WL.app2 ?_ | refine WL.app1 ?_ | refine WL.app0 ?_ | skip
  repeat first
    | (apply WL.q; exact rfl; exact rfl; exact rfl; (first | (apply EvW.move; exact rfl) | (apply EvW.assign; exact rfl)))
    | refine WC.seq ?_ | refine WC.region ?_ | refine WL.nil ?_ | refine WE.next ?_ | refine WC.ret ?_
  refine WE.retN (l := [6, 7]) rfl rfl rfl ?_
  exact ⟨rfl, rfl⟩
theorem last_spec (b : Nat) (m : Rcv) (w : World) (S : BSet) (hS : (sepL [.blk b #[i64 (m).last, i64 (m).lost, i64 (m).num, i64 (m).peer, i64 (m).age] 85]).sat S w)  :
    Tri Try.prog 31 #[ptr b 0] w S fun u A => u = i64 m.last ∧ A = [.blk b #[i64 (m).last, i64 (m).lost, i64 (m).num, i64 (m).peer, i64 (m).age] 85] := by
  refine Tri.enter (l := [ptr b 0]) Try.func31 rfl Try.ntmps31 rfl [(0, ptr b 0)] (subA rfl) hS ?_
  repeat first
    | (apply WL.q; exact rfl; exact rfl; exact rfl; (first | (apply EvW.move; exact rfl) | (apply EvW.assign; exact rfl) | (apply EvW.nilPtr; exact rfl) | (apply EvW.fieldAddr0; exact rfl; exact FldC.eq) | (apply EvW.load; exact rfl; exact ScalC.eq; (focus ((repeat constructor); done)); exact rfl)))
    | refine WC.seq ?_ | refine WC.region ?_ | refine WL.nil ?_ | refine WE.next ?_ | refine WC.ret ?_
  refine WE.ret1 rfl rfl ?_
  exact ⟨rfl, rfl⟩
theorem newReceiver_spec (p a : Int) (w : World) (S : BSet) (hS : (sepL []).sat S w)  :
    Tri Try.prog 27 #[i64 p, i64 a] w S fun u A => ∃ b, u = ptr b 0 ∧ A = [.blk b #[i64 (Rcv.new p a).last, i64 (Rcv.new p a).lost, i64 (Rcv.new p a).num, i64 (Rcv.new p a).peer, i64 (Rcv.new p a).age] 85] := by
  refine Tri.enter (l := [i64 p, i64 a]) Try.func27 rfl Try.ntmps27 rfl [(0, i64 p), (1, i64 a)] (subA rfl) hS ?_
  repeat first
    | (apply WL.q; exact rfl; exact rfl; exact rfl; (first | (apply EvW.move; exact rfl) | (apply EvW.assign; exact rfl) | (apply EvW.build; exact PlC.eq; exact ZvC.eq; exact rfl; exact rfl; (focus ((repeat (first | exact Fills.nil | (apply Fills.cons; exact rfl; (first | assumption | exact rfl); exact rfl) | exact SetMany.nil | apply SetMany.cons | apply SetMany.succ)); done)))))
    | refine WC.seq ?_ | refine WC.region ?_ | refine WL.nil ?_ | refine WE.next ?_
  try refine WL.wanted rfl rfl rfl ?_
  (apply WL.box; exact rfl; exact rfl; exact rfl; intro b)
  repeat first
    | (apply WL.q; exact rfl; exact rfl; exact rfl; (first | (apply EvW.assign; exact rfl)))
    | refine WL.nil ?_ | refine WE.next ?_ | refine WC.ret ?_
  refine WE.ret1 rfl rfl ?_
  exact ⟨b, rfl, rfl⟩
end Go.Proofs.Ytamofjpadnnppaa
namespace Go.Proofs.Ytamofjpadnnppaa
open Go.RowKit Go.BK
def numsF (m : Rcv) (now : Int) (r : Said × Int) (ns : List Int) : List Int := if (takeF m now r).2.2 = 0 then ns ++ [r.1.n] else ns
theorem note_last (m : Rcv) (n s : Int) : (m.note n s).last = s := by unfold Rcv.note; split <;> rfl
end Go.Proofs.Ytamofjpadnnppaa
namespace Go.BK
open Go.RowKit
section
variable {P : Program} {w0 : World} {S0 : BSet} {n : Nat} {F : Fr} {A : List HP} {dd : Option Tmp} {T : TypeId} {pos : String} {af : Array Edge} {x y : Operand} {t ty : TypeId} {g : Option (Nat × Bool)}
theorem runForYield {α β : Type} {w : World} {body : α → β → Sem (ForInStep β)} {s : β} : ∀ (l : List α), (∀ f ∈ l, (body f s).run P w = .ok (.yield s) w) → (forIn l s body).run P w = .ok s w
  | [], _ => by simp
  | f :: l, h => by
    rw [List.forIn_cons]
    simp only [Sem.run_bind, h f (by simp), Result.andThen]
    exact runForYield l fun g hg => h g (by simp [hg])
end
end Go.BK
namespace Go.BK
open Go.RowKit Go.MapKept
section
variable {P : Program} {w0 : World} {S0 : BSet} {n : Nat} {F : Fr} {A : List HP} {dd : Option Tmp} {T : TypeId} {pos : String} {af : Array Edge} {x y : Operand} {t ty : TypeId} {g : Option (Nat × Bool)} {ops : Array Oper} {rest : List Oper} {Q : Exit → Act → World → Prop} {d : Tmp}
/-- A cell of an element of an own list of things. -/
theorem EvW.ldFldOwn {α : Type} {xs : List α} {f : α → List Value} {i off sz len : Nat} {q v : Value} {ee : TypeId} {r : List HP} (hx : ev F x = some (elemP sz v i off)) (hs : scalB P t = true) (ht : Take (.own ee sz v len (xs.flatMap f)) A r) (hI : Inhabited α) (hf : ∀ a, (f a).length = sz) (hi : i < xs.length) (hq : getL (f (xs.getD i default)) off = some q) : EvW P w0 S0 n F A ⟨dd, .load t x, T, pos, af, g⟩ q :=
  .ldOwn hx hs ht (by
    have h := flat_get (z := default) hf hi
    rw [getL_eq] at hq
    have hlt : off < sz := by rw [← hf (xs.getD i default)]; exact (List.getElem?_eq_some_iff.1 hq).1
    rw [← h, List.getElem?_take_of_lt hlt, List.getElem?_drop] at hq
    exact hq)
theorem runEqSlNil {w : World} {e : TypeId} {p : Option Addr} {l c l2 c2 : Nat} (hu : P.underlying t = some (.slice e)) : (Op.equal t (.slice p l c) (.slice none l2 c2)).run P w = .ok p.isNone w := by
  have key : ∀ d, (Op.equalIn (d + 1) t (.slice p l c) (.slice none l2 c2)).run P w = .ok p.isNone w := fun d => by
    rw [Op.equalIn]
    simp only [Sem.run_bind, run_underlying hu, Result.andThen]
    cases p <;> rfl
  exact key 9999
/-- A slice against nil. -/
theorem EvW.eqNilT {l c l2 c2 : Nat} {e : TypeId} (hx : ev F x = some (.slice none l c)) (hy : ev F y = some (.slice none l2 c2)) (hu : P.underlying t = some (.slice e)) : EvW P w0 S0 n F A ⟨dd, .binOp .eql t x y ty, T, pos, af, g⟩ (.bool true) :=
  .pure fun a' w ha _ => by simp [execOp, ha.eval hx, ha.eval hy, eqGuard, binOp, runEqSlNil hu]
theorem EvW.eqNilF {l c l2 c2 : Nat} {a : Addr} {e : TypeId} (hx : ev F x = some (.slice (some a) l c)) (hy : ev F y = some (.slice none l2 c2)) (hu : P.underlying t = some (.slice e)) : EvW P w0 S0 n F A ⟨dd, .binOp .eql t x y ty, T, pos, af, g⟩ (.bool false) :=
  .pure fun a' w ha _ => by simp [execOp, ha.eval hx, ha.eval hy, eqGuard, binOp, runEqSlNil hu]
theorem flat_len {α : Type} {f : α → List Value} {sz : Nat} (hf : ∀ a, (f a).length = sz) : ∀ xs : List α, (xs.flatMap f).length = xs.length * sz
  | [] => by simp
  | x :: xs => by rw [List.flatMap_cons, List.length_append, hf, flat_len hf xs, List.length_cons, Nat.succ_mul, Nat.add_comm]
theorem EvW.ldElemOwn {α : Type} {xs : List α} {f : α → List Value} {z : α} {v : Value} {i sz len : Nat} {ee : TypeId} {r : List HP} (hx : ev F x = some (elemP sz v i 0)) (hs : aggB P t = true) (hm : szB P t = some sz) (hpos : Nat.ble 1 sz = true) (hf : ∀ a, (f a).length = sz) (ht : Take (.own ee sz v len (xs.flatMap f)) A r) (hi : i < xs.length) :
    EvW P w0 S0 n F A ⟨dd, .load t x, T, pos, af, g⟩ (.agg (f (xs.getD i z)).toArray) :=
  .pure fun a' w ha hst => by
    obtain ⟨R, hR⟩ := hst.take ht
    have hl : i * sz + 0 + sz ≤ (xs.flatMap f).length := by
      rw [flat_len hf]
      calc i * sz + 0 + sz = (i + 1) * sz := by rw [Nat.add_mul]; omega
        _ ≤ xs.length * sz := Nat.mul_le_mul_right _ hi
    have hg := flat_get (z := z) hf hi
    generalize f (xs.getD i z) = out at hg
    simp [execOp, ha.eval hx, runLoadAggAt hs hm (Nat.le_of_ble_eq_true hpos) (own_row hR) hg hl]
end
end Go.BK
namespace Go.BK
open Go.RowKit Go.MapKept
section
variable {P : Program} {w0 : World} {S0 : BSet} {n : Nat} {F : Fr} {A : List HP} {dd : Option Tmp} {T : TypeId} {pos : String} {af : Array Edge} {x y : Operand} {t ty : TypeId} {g : Option (Nat × Bool)} {ops : Array Oper} {rest : List Oper} {Q : Exit → Act → World → Prop} {d : Tmp}
end
/-- Cells from a place on, of which the length is that of a list. -/
theorem SubL.all : ∀ (xs r : List Value), SubL (xs ++ r) 0 xs.length xs
  | [], _ => .nil
  | _ :: xs, r => .cons (SubL.all xs r)
theorem SetMany.all : ∀ (ys xs r : List Value), ys.length = xs.length → SetMany (ys ++ r) 0 xs (xs ++ r)
  | [], [], _, _ => .nil
  | [], _ :: _, _, h => by simp at h
  | _ :: _, [], _, h => by simp at h
  | _ :: ys, _ :: xs, r, h => .cons (SetMany.all ys xs r (by simpa using h))
end Go.BK
namespace Go.BK
open Go.RowKit
section
variable {P : Program} {w0 : World} {S0 : BSet} {n : Nat} {F : Fr} {A A' r r' : List HP} {dd : Option Tmp} {T : TypeId} {pos : String} {af : Array Edge} {x y : Operand} {t ty : TypeId} {g : Option (Nat × Bool)} {ops : Array Oper} {rest : List Oper} {Q : Exit → Act → World → Prop} {L L' : List HP} {z : HP}
theorem take_at : ∀ {L : List HP} {i : Nat} {z : HP}, L[i]? = some z → Take z L (L.eraseIdx i)
  | [], _, _, h => by simp at h
  | a :: L, 0, z, h => by simp at h; subst h; exact .head
  | a :: L, i + 1, z, h => .tail (take_at (by simpa using h))
theorem take_set : ∀ {L : List HP} {i : Nat} (z : HP), i < L.length → Take z (L.set i z) (L.eraseIdx i)
  | [], _, _, h => by simp at h
  | a :: L, 0, z, _ => .head
  | a :: L, i + 1, z, h => .tail (take_set z (by simpa using h))
theorem St.out {w : World} (ht : Take (sepL L) A r) (hz : Take z L L') (h : St w0 S0 A w) : St w0 S0 (z :: sepL L' :: r) w :=
  h.mono fun _ _ hs => star_assoc (star_mono (ht.star hs) (fun _ h => hz.star h) fun _ h => h)
theorem St.back {w : World} (hz : Take z L L') (h : St w0 S0 (z :: sepL L' :: r) w) : St w0 S0 (sepL L :: r) w :=
  h.mono fun _ _ hs => star_mono (star_assoc' hs) (fun _ h => hz.unstar h) fun _ h => h
theorem WL.out (ht : Take (sepL L) A r) (hz : Take z L L') (kk : WL P w0 S0 n ops Q rest F (z :: sepL L' :: r)) : WL P w0 S0 n ops Q rest F A := kk.conv fun _ hs => St.out ht hz hs
theorem WC.out {c : Code} (ht : Take (sepL L) A r) (hz : Take z L L') (kk : WC P w0 S0 n c Q F (z :: sepL L' :: r)) : WC P w0 S0 n c Q F A := kk.conv fun _ hs => St.out ht hz hs
theorem WE.back {e : Exit} (h : TakeL [z, sepL L'] A r) (hz : Take z L L') (kk : WE w0 S0 n Q e F (sepL L :: r)) : WE w0 S0 n Q e F A := kk.conv fun _ hs => St.back hz (hs.mono fun _ _ h' => sepL_append (A := [z, sepL L']) (h.star h'))
end
end Go.BK
namespace Go.Proofs.Ytamofjpadnnppaa
open Go.RowKit Go.BK
instance : Inhabited Q4 := ⟨⟨.slice none 0 0, .slice none 0 0, .slice none 0 0, .slice none 0 0, [], [], [], []⟩⟩
instance : Inhabited Rcv := ⟨Rcv.new 0 0⟩
/-- A voice: its block, its receiver's, what was taken, which elements it has, what it said, when. -/
structure Voice where
  b : Nat
  r : Nat
  rc : Rcv
  sh : Q4
  sd : Q4
  stamp : Int
instance : Inhabited Voice := ⟨⟨0, 0, default, default, default, -1⟩⟩
structure Voice.Seen (v : Voice) (w : World) (S : BSet) : Prop where
  blk : Sees w S (.blk (v).b #[ptr (v).r 0, (v).sh.a, (v).sh.b, (v).sh.y, (v).sh.d, (v).sd.a, (v).sd.b, (v).sd.y, (v).sd.d, i64 (v).stamp] 78)
  rcv : Sees w S (.blk v.r #[i64 (v.rc).last, i64 (v.rc).lost, i64 (v.rc).num, i64 (v.rc).peer, i64 (v.rc).age] 85)
  sh : v.sh.Seen w S
  sd : v.sd.Seen w S
theorem Voice.Seen.down {v : Voice} {w w' : World} {S S' : BSet} (h : v.Seen w S) (k : ∀ B, Sees w S B → Sees w' S' B) : v.Seen w' S' := ⟨k _ h.blk, k _ h.rcv, h.sh.down k, h.sd.down k⟩
structure Img where
  b : Nat
  c : Cfg
  vv : Value
  vs : List Voice
def vPtr (v : Voice) : Value := ptr v.b 0
structure Img.Seen (x : Img) (w : World) (S : BSet) : Prop where
  blk : Sees w S (.blk (x).b #[(x).c.vS, (x).c.vJ, (x).c.vG, (x).c.vC, (x).c.vR, i64 (x).c.age, i64 (x).c.brake, i64 (x).c.hold, i64 (x).c.budget, (x).vv] 73)
  c : x.c.Seen w S
  vv : Sees w S (.row 1 x.vv 4 (x.vs.map vPtr))
  len : x.vs.length = 4
  v : ∀ k, k < 4 → ((x.vs.getD k default)).Seen w S
theorem Img.Seen.down {x : Img} {w w' : World} {S S' : BSet} (h : x.Seen w S) (k : ∀ B, Sees w S B → Sees w' S' B) : x.Seen w' S' := ⟨k _ h.blk, h.c.down k, k _ h.vv, h.len, fun i hi => (h.v i hi).down k⟩
theorem getD_some {α : Type} {l : List α} {d : α} {i : Nat} (h : i < l.length) : l[i]? = some (l.getD i d) := by
  rw [List.getD_eq_getElem?_getD, List.getElem?_eq_getElem h]; rfl
theorem Img.at {x : Img} {k : Nat} (h : k < x.vs.length) : (x.vs.map vPtr)[k * 1 + 0]? = some (ptr ((x.vs.getD k default)).b 0) := by
  rw [Nat.mul_one, Nat.add_zero, List.getElem?_map, getD_some (d := default) h]; rfl
def freshF (st now age : Int) : Bool := decide (0 ≤ st) && (decide (st ≤ now) && decide (now - st ≤ age))
/-- Is a controller heard? -/
def aliveP (st : Int → Int) (now age oc : Int) : Bool := decide (0 ≤ oc) && (decide (oc < 4) && freshF (st oc) now age)
def Img.st (x : Img) (oc : Int) : Int := ((x.vs.getD oc.toNat default)).stamp
theorem aliveP_out {st : Int → Int} {now age oc : Int} (h : ¬ (0 ≤ oc ∧ oc < 4)) : aliveP st now age oc = false := by
  unfold aliveP
  by_cases h0 : 0 ≤ oc
  · rw [decide_eq_false (show ¬ oc < 4 from fun k => h ⟨h0, k⟩), Bool.false_and, Bool.and_false]
  · rw [decide_eq_false h0, Bool.false_and]
theorem aliveP_in {st : Int → Int} {now age oc : Int} (h : 0 ≤ oc ∧ oc < 4) : aliveP st now age oc = freshF (st oc) now age := by
  unfold aliveP
  rw [decide_eq_true h.1, decide_eq_true h.2, Bool.true_and, Bool.true_and]
theorem freshI_spec (v : Voice) (now age : Int) (g : Bool) (w : World) (S : BSet) (hS : (sepL []).sat S w) (hv : Sees w S (.blk (v).b #[ptr (v).r 0, (v).sh.a, (v).sh.b, (v).sh.y, (v).sh.d, (v).sd.a, (v).sd.b, (v).sd.y, (v).sd.d, i64 (v).stamp] 78)) (hw : now ≤ 9223372036854775807) (hg : freshF v.stamp now age = g) :
    Tri Try.prog 46 #[ptr v.b 0, i64 now, i64 age] w S fun u A => u = .bool g ∧ A = [] := by
  refine Tri.enter (l := [ptr v.b 0, i64 now, i64 age]) Try.func46 rfl Try.ntmps46 rfl [(0, ptr v.b 0), (1, i64 now), (2, i64 age)] (subA rfl) hS ?_
  subst hg
  unfold freshF
  by_cases h1 : 0 ≤ v.stamp
  · by_cases h2 : v.stamp ≤ now
    · rw [decide_eq_true h1, decide_eq_true h2, Bool.true_and, Bool.true_and]
      repeat first
        | (apply WL.q; exact rfl; exact rfl; exact rfl; (first | (apply EvW.move; exact rfl) | (apply EvW.assign; exact rfl) | (apply EvW.nilPtr; exact rfl) | (apply EvW.fieldAddr0; exact rfl; exact FldC.eq) | (apply EvW.ldSeen; exact rfl; exact ScalC.eq; assumption; (first | exact rfl | assumption)) | (apply EvW.cmpT; exact rfl; exact rfl; exact rfl; omega) | (apply EvW.cmp; exact rfl; exact rfl; exact rfl) | (apply EvW.arN; exact rfl; exact rfl; exact rfl; refine i64_in ?_ ?_ <;> omega) | (apply EvW.pickT; exact rfl; exact rfl)))
        | refine WC.seq ?_ | refine WC.region ?_ | refine WL.nil ?_ | refine WE.next ?_ | refine WC.ret ?_ | refine WL.wanted rfl rfl rfl ?_
      refine WE.ret1 rfl rfl ?_
      exact ⟨rfl, rfl⟩
    · rw [decide_eq_true h1, decide_eq_false h2]
      repeat first
        | (apply WL.q; exact rfl; exact rfl; exact rfl; (first | (apply EvW.move; exact rfl) | (apply EvW.assign; exact rfl) | (apply EvW.nilPtr; exact rfl) | (apply EvW.fieldAddr0; exact rfl; exact FldC.eq) | (apply EvW.ldSeen; exact rfl; exact ScalC.eq; assumption; (first | exact rfl | assumption)) | (apply EvW.cmpT; exact rfl; exact rfl; exact rfl; omega) | (apply EvW.cmpF; exact rfl; exact rfl; exact rfl; omega) | (apply EvW.pickT; exact rfl; exact rfl) | (apply EvW.pickF; exact rfl; exact rfl)))
        | refine WC.seq ?_ | refine WC.region ?_ | refine WL.nil ?_ | refine WE.next ?_ | refine WC.ret ?_ | refine WL.wanted rfl rfl rfl ?_ | refine WL.unwanted rfl rfl rfl rfl ?_
      refine WE.ret1 rfl rfl ?_
      exact ⟨rfl, rfl⟩
  · rw [decide_eq_false h1]
    repeat first
      | (apply WL.q; exact rfl; exact rfl; exact rfl; (first | (apply EvW.move; exact rfl) | (apply EvW.assign; exact rfl) | (apply EvW.nilPtr; exact rfl) | (apply EvW.fieldAddr0; exact rfl; exact FldC.eq) | (apply EvW.ldSeen; exact rfl; exact ScalC.eq; assumption; (first | exact rfl | assumption)) | (apply EvW.cmpF; exact rfl; exact rfl; exact rfl; omega) | (apply EvW.pickF; exact rfl; exact rfl)))
      | refine WC.seq ?_ | refine WC.region ?_ | refine WL.nil ?_ | refine WE.next ?_ | refine WC.ret ?_ | refine WL.unwanted rfl rfl rfl rfl ?_
    refine WE.ret1 rfl rfl ?_
    exact ⟨rfl, rfl⟩
theorem aliveI_spec (x : Img) (now oc : Int) (g : Bool) (w : World) (S : BSet) (hS : (sepL []).sat S w) (hx : x.Seen w S) (hw : now ≤ 9223372036854775807) (hg : aliveP x.st now x.c.age oc = g) :
    Tri Try.prog 15 #[ptr x.b 0, i64 now, i64 oc] w S fun u A => u = .bool g ∧ A = [] := by
  refine Tri.enter (l := [ptr x.b 0, i64 now, i64 oc]) Try.func15 rfl Try.ntmps15 rfl [(0, ptr x.b 0), (1, i64 now), (2, i64 oc)] (subA rfl) hS ?_
  have hB := hx.blk
  have hV := hx.vv
  by_cases h0 : 0 ≤ oc
  · by_cases h4 : oc < (4 : Nat)
    · have hf : freshF ((x.vs.getD oc.toNat default)).stamp now x.c.age = g := by rw [← hg, aliveP_in ⟨h0, h4⟩]; rfl
      have hk := hx.v oc.toNat (by omega)
      have hat := Img.at (x := x) (k := oc.toNat) (by rw [hx.len]; omega)
      repeat first
        | (apply WL.q; exact rfl; exact rfl; exact rfl; (first | (apply EvW.assign; exact rfl)))
        | refine WC.seq ?_ | refine WC.region ?_ | refine WL.nil ?_ | refine WE.next ?_
      repeat refine WC.seq ?_
      refine WC.keep (xs := []) (by repeat constructor) ?_
      apply WC.par _ (fun c : Ch => []) [] [] [] Try.mixed
      · (focus ((repeat (first | exact Restr.nil | (apply Restr.keep; exact rfl; exact rfl) | (apply Restr.drop; exact rfl))); done))
      · intro c; exact (by repeat constructor)
      · exact rfl
      · decide +kernel
      · decide +kernel
      · intro c
        (apply Par.quiet _ []; exact rfl; decide +kernel; exact rfl; intro R; refine ⟨_, (by repeat constructor), ?_⟩;
             (first | (apply EvW.move; exact rfl)))
        (apply Par.quiet _ []; exact rfl; decide +kernel; exact rfl; intro R; refine ⟨_, (by repeat constructor), ?_⟩;
             (first | (apply EvW.cmpT; exact rfl; exact rfl; exact rfl; omega)))
        (apply Par.quiet _ []; exact rfl; decide +kernel; exact rfl; intro R; refine ⟨_, (by repeat constructor), ?_⟩;
             (first | (apply EvW.move; exact rfl)))
        first
          | (apply Par.skip; exact rfl; decide +kernel; exact rfl)
          | (apply Par.quiet _ []; exact rfl; decide +kernel; exact rfl; intro R; refine ⟨_, (by repeat constructor), ?_⟩;
             (first | (apply EvW.move; exact rfl)))
        first
          | (apply Par.skip; exact rfl; decide +kernel; exact rfl)
          | (apply Par.quiet _ []; exact rfl; decide +kernel; exact rfl; intro R; refine ⟨_, (by repeat constructor), ?_⟩;
             (first | (apply EvW.move; exact rfl)))
        first
          | (apply Par.skip; exact rfl; decide +kernel; exact rfl)
          | (apply Par.quiet _ []; exact rfl; decide +kernel; exact rfl; intro R; refine ⟨_, (by repeat constructor), ?_⟩;
             (first | (apply EvW.nilPtr; exact rfl)))
        first
          | (apply Par.skip; exact rfl; decide +kernel; exact rfl)
          | (apply Par.quiet _ []; exact rfl; decide +kernel; exact rfl; intro R; refine ⟨_, (by repeat constructor), ?_⟩;
             (first | (apply EvW.fieldAddr0; exact rfl; exact FldC.eq)))
        first
          | (apply Par.skip; exact rfl; decide +kernel; exact rfl)
          | (apply Par.quiet _ []; exact rfl; decide +kernel; exact rfl; intro R; refine ⟨_, (by repeat constructor), ?_⟩;
             (first | (apply EvW.ldSeen; exact rfl; exact ScalC.eq; assumption; (first | exact rfl | assumption))))
        first
          | (apply Par.skip; exact rfl; decide +kernel; exact rfl)
          | (apply Par.quiet _ []; exact rfl; decide +kernel; exact rfl; intro R; refine ⟨_, (by repeat constructor), ?_⟩;
             (first | (apply EvW.lenRow; exact rfl; exact UndC.eq; assumption)))
        first
          | (apply Par.skip; exact rfl; decide +kernel; exact rfl)
          | (apply Par.quiet _ []; exact rfl; decide +kernel; exact rfl; intro R; refine ⟨_, (by repeat constructor), ?_⟩;
             (first | (apply EvW.cmpT; exact rfl; exact rfl; exact rfl; omega)))
        (apply Par.quiet _ []; exact rfl; decide +kernel; exact rfl; intro R; refine ⟨_, (by repeat constructor), ?_⟩;
             (first | (apply EvW.pickT; exact rfl; exact rfl)))
        (apply Par.quiet _ []; exact rfl; decide +kernel; exact rfl; intro R; refine ⟨_, (by repeat constructor), ?_⟩;
             (first | (apply EvW.move; exact rfl)))
        first
          | (apply Par.skip; exact rfl; decide +kernel; exact rfl)
          | (apply Par.quiet _ []; exact rfl; decide +kernel; exact rfl; intro R; refine ⟨_, (by repeat constructor), ?_⟩;
             (first | (apply EvW.move; exact rfl)))
        first
          | (apply Par.skip; exact rfl; decide +kernel; exact rfl)
          | (apply Par.quiet _ []; exact rfl; decide +kernel; exact rfl; intro R; refine ⟨_, (by repeat constructor), ?_⟩;
             (first | (apply EvW.nilPtr; exact rfl)))
        first
          | (apply Par.skip; exact rfl; decide +kernel; exact rfl)
          | (apply Par.quiet _ []; exact rfl; decide +kernel; exact rfl; intro R; refine ⟨_, (by repeat constructor), ?_⟩;
             (first | (apply EvW.fieldAddr0; exact rfl; exact FldC.eq)))
        first
          | (apply Par.skip; exact rfl; decide +kernel; exact rfl)
          | (apply Par.quiet _ []; exact rfl; decide +kernel; exact rfl; intro R; refine ⟨_, (by repeat constructor), ?_⟩;
             (first | (apply EvW.ldSeen; exact rfl; exact ScalC.eq; assumption; (first | exact rfl | assumption))))
        first
          | (apply Par.skip; exact rfl; decide +kernel; exact rfl)
          | (apply Par.quiet _ []; exact rfl; decide +kernel; exact rfl; intro R; refine ⟨_, (by repeat constructor), ?_⟩;
             (first | (apply EvW.move; exact rfl)))
        first
          | (apply Par.skip; exact rfl; decide +kernel; exact rfl)
          | (apply Par.quiet _ []; exact rfl; decide +kernel; exact rfl; intro R; refine ⟨_, (by repeat constructor), ?_⟩;
             (first | (apply EvW.idxRow; exact rfl; exact rfl; exact UndC.eq; exact SzC.eq; assumption; omega; omega)))
        apply Par.quiet _ []
        · exact rfl
        · decide +kernel
        · exact rfl
        · intro R
          refine ⟨_, (by repeat constructor), ?_⟩
          (apply EvW.ldRow (i := oc.toNat) (off := 0) (q := ptr ((x.vs.getD oc.toNat default)).b 0); exact rfl; exact ScalC.eq; assumption; exact hat)
        first
          | (apply Par.skip; exact rfl; decide +kernel; exact rfl)
          | (apply Par.quiet _ []; exact rfl; decide +kernel; exact rfl; intro R; refine ⟨_, (by repeat constructor), ?_⟩;
             (first | (apply EvW.move; exact rfl)))
        first
          | (apply Par.skip; exact rfl; decide +kernel; exact rfl)
          | (apply Par.quiet _ []; exact rfl; decide +kernel; exact rfl; intro R; refine ⟨_, (by repeat constructor), ?_⟩;
             (first | (apply EvW.move; exact rfl)))
        first
          | (apply Par.skip; exact rfl; decide +kernel; exact rfl)
          | (apply Par.quiet _ []; exact rfl; decide +kernel; exact rfl; intro R; refine ⟨_, (by repeat constructor), ?_⟩;
             (first | (apply EvW.nilPtr; exact rfl)))
        first
          | (apply Par.skip; exact rfl; decide +kernel; exact rfl)
          | (apply Par.quiet _ []; exact rfl; decide +kernel; exact rfl; intro R; refine ⟨_, (by repeat constructor), ?_⟩;
             (first | (apply EvW.fieldAddr0; exact rfl; exact FldC.eq)))
        first
          | (apply Par.skip; exact rfl; decide +kernel; exact rfl)
          | (apply Par.quiet _ []; exact rfl; decide +kernel; exact rfl; intro R; refine ⟨_, (by repeat constructor), ?_⟩;
             (first | (apply EvW.fieldAddr0; exact rfl; exact FldC.eq)))
        first
          | (apply Par.skip; exact rfl; decide +kernel; exact rfl)
          | (apply Par.quiet _ []; exact rfl; decide +kernel; exact rfl; intro R; refine ⟨_, (by repeat constructor), ?_⟩;
             (first | (apply EvW.fieldAddr; exact rfl; exact FldC.eq)))
        first
          | (apply Par.skip; exact rfl; decide +kernel; exact rfl)
          | (apply Par.quiet _ []; exact rfl; decide +kernel; exact rfl; intro R; refine ⟨_, (by repeat constructor), ?_⟩;
             (first | (apply EvW.ldSeen; exact rfl; exact ScalC.eq; assumption; (first | exact rfl | assumption))))
        apply Par.quiet _ []
        · exact rfl
        · decide +kernel
        · exact rfl
        · intro R
          refine ⟨_, (by repeat constructor), ?_⟩
          apply EvW.callK ([])
          · exact rfl
          · exact fun w => Try.call46 _ w
          · (focus ((repeat constructor); done))
          · exact fun w1 S1 hS1 hs1 ho1 => freshI_spec ((x.vs.getD oc.toNat default)) now x.c.age g w1 S1 hS1 (hs1 _ hk.blk) hw hf
          · exact fun _ _ h => h
        (apply Par.quiet _ []; exact rfl; decide +kernel; exact rfl; intro R; refine ⟨_, (by repeat constructor), ?_⟩;
             (first | (apply EvW.pickT; exact rfl; exact rfl)))
        (apply Par.quiet _ []; exact rfl; decide +kernel; exact rfl; intro R; refine ⟨_, (by repeat constructor), ?_⟩;
             (first | (apply EvW.assign; exact rfl)))
        exact Par.nil
      · repeat (first | exact AllN.nil | (apply AllN.cons; (intro c x; (repeat (first | exact IndA.nil | (apply IndA.skip; decide +kernel) | apply IndA.same))))) 
      · repeat (first | exact AllN.nil | (apply AllN.cons; (intro c x; (repeat (first | exact IndT.nil | (apply IndT.skip; decide +kernel) | apply IndT.same))))) 
      · exact fun _ => rfl
      intro c
      refine ⟨_, (by repeat constructor), ?_⟩
      apply WE.writ
      · (focus ((repeat (first | exact Writ.nil | apply Writ.some | apply Writ.none)); done))
      repeat first
        | refine WE.next ?_ | refine WC.ret ?_
      refine WE.ret1 rfl rfl ?_
      exact ⟨rfl, rfl⟩
    · rw [aliveP_out (fun h => h4 h.2)] at hg
      subst hg
      repeat first
        | (apply WL.q; exact rfl; exact rfl; exact rfl; (first | (apply EvW.assign; exact rfl)))
        | refine WC.seq ?_ | refine WC.region ?_ | refine WL.nil ?_ | refine WE.next ?_
      repeat refine WC.seq ?_
      refine WC.keep (xs := []) (by repeat constructor) ?_
      apply WC.par _ (fun c : Ch => []) [] [] [] Try.mixed
      · (focus ((repeat (first | exact Restr.nil | (apply Restr.keep; exact rfl; exact rfl) | (apply Restr.drop; exact rfl))); done))
      · intro c; exact (by repeat constructor)
      · exact rfl
      · decide +kernel
      · decide +kernel
      · intro c
        (apply Par.quiet _ []; exact rfl; decide +kernel; exact rfl; intro R; refine ⟨_, (by repeat constructor), ?_⟩;
             (first | (apply EvW.move; exact rfl)))
        (apply Par.quiet _ []; exact rfl; decide +kernel; exact rfl; intro R; refine ⟨_, (by repeat constructor), ?_⟩;
             (first | (apply EvW.cmpT; exact rfl; exact rfl; exact rfl; omega)))
        (apply Par.quiet _ []; exact rfl; decide +kernel; exact rfl; intro R; refine ⟨_, (by repeat constructor), ?_⟩;
             (first | (apply EvW.move; exact rfl)))
        first
          | (apply Par.skip; exact rfl; decide +kernel; exact rfl)
          | (apply Par.quiet _ []; exact rfl; decide +kernel; exact rfl; intro R; refine ⟨_, (by repeat constructor), ?_⟩;
             (first | (apply EvW.move; exact rfl)))
        first
          | (apply Par.skip; exact rfl; decide +kernel; exact rfl)
          | (apply Par.quiet _ []; exact rfl; decide +kernel; exact rfl; intro R; refine ⟨_, (by repeat constructor), ?_⟩;
             (first | (apply EvW.move; exact rfl)))
        first
          | (apply Par.skip; exact rfl; decide +kernel; exact rfl)
          | (apply Par.quiet _ []; exact rfl; decide +kernel; exact rfl; intro R; refine ⟨_, (by repeat constructor), ?_⟩;
             (first | (apply EvW.nilPtr; exact rfl)))
        first
          | (apply Par.skip; exact rfl; decide +kernel; exact rfl)
          | (apply Par.quiet _ []; exact rfl; decide +kernel; exact rfl; intro R; refine ⟨_, (by repeat constructor), ?_⟩;
             (first | (apply EvW.fieldAddr0; exact rfl; exact FldC.eq)))
        first
          | (apply Par.skip; exact rfl; decide +kernel; exact rfl)
          | (apply Par.quiet _ []; exact rfl; decide +kernel; exact rfl; intro R; refine ⟨_, (by repeat constructor), ?_⟩;
             (first | (apply EvW.ldSeen; exact rfl; exact ScalC.eq; assumption; (first | exact rfl | assumption))))
        first
          | (apply Par.skip; exact rfl; decide +kernel; exact rfl)
          | (apply Par.quiet _ []; exact rfl; decide +kernel; exact rfl; intro R; refine ⟨_, (by repeat constructor), ?_⟩;
             (first | (apply EvW.lenRow; exact rfl; exact UndC.eq; assumption)))
        first
          | (apply Par.skip; exact rfl; decide +kernel; exact rfl)
          | (apply Par.quiet _ []; exact rfl; decide +kernel; exact rfl; intro R; refine ⟨_, (by repeat constructor), ?_⟩;
             (first | (apply EvW.cmpF; exact rfl; exact rfl; exact rfl; omega)))
        (apply Par.quiet _ []; exact rfl; decide +kernel; exact rfl; intro R; refine ⟨_, (by repeat constructor), ?_⟩;
             (first | (apply EvW.pickT; exact rfl; exact rfl)))
        (apply Par.quiet _ []; exact rfl; decide +kernel; exact rfl; intro R; refine ⟨_, (by repeat constructor), ?_⟩;
             (first | (apply EvW.move; exact rfl)))
        first
          | (apply Par.skip; exact rfl; decide +kernel; exact rfl)
          | (apply Par.quiet _ []; exact rfl; decide +kernel; exact rfl; intro R; refine ⟨_, (by repeat constructor), ?_⟩;
             fail)
        first
          | (apply Par.skip; exact rfl; decide +kernel; exact rfl)
          | (apply Par.quiet _ []; exact rfl; decide +kernel; exact rfl; intro R; refine ⟨_, (by repeat constructor), ?_⟩;
             fail)
        first
          | (apply Par.skip; exact rfl; decide +kernel; exact rfl)
          | (apply Par.quiet _ []; exact rfl; decide +kernel; exact rfl; intro R; refine ⟨_, (by repeat constructor), ?_⟩;
             fail)
        first
          | (apply Par.skip; exact rfl; decide +kernel; exact rfl)
          | (apply Par.quiet _ []; exact rfl; decide +kernel; exact rfl; intro R; refine ⟨_, (by repeat constructor), ?_⟩;
             fail)
        first
          | (apply Par.skip; exact rfl; decide +kernel; exact rfl)
          | (apply Par.quiet _ []; exact rfl; decide +kernel; exact rfl; intro R; refine ⟨_, (by repeat constructor), ?_⟩;
             fail)
        first
          | (apply Par.skip; exact rfl; decide +kernel; exact rfl)
          | (apply Par.quiet _ []; exact rfl; decide +kernel; exact rfl; intro R; refine ⟨_, (by repeat constructor), ?_⟩;
             fail)
        first
          | (apply Par.skip; exact rfl; decide +kernel; exact rfl)
          | (apply Par.quiet _ []; exact rfl; decide +kernel; exact rfl; intro R; refine ⟨_, (by repeat constructor), ?_⟩;
             fail)
        first
          | (apply Par.skip; exact rfl; decide +kernel; exact rfl)
          | (apply Par.quiet _ []; exact rfl; decide +kernel; exact rfl; intro R; refine ⟨_, (by repeat constructor), ?_⟩;
             fail)
        first
          | (apply Par.skip; exact rfl; decide +kernel; exact rfl)
          | (apply Par.quiet _ []; exact rfl; decide +kernel; exact rfl; intro R; refine ⟨_, (by repeat constructor), ?_⟩;
             fail)
        first
          | (apply Par.skip; exact rfl; decide +kernel; exact rfl)
          | (apply Par.quiet _ []; exact rfl; decide +kernel; exact rfl; intro R; refine ⟨_, (by repeat constructor), ?_⟩;
             fail)
        first
          | (apply Par.skip; exact rfl; decide +kernel; exact rfl)
          | (apply Par.quiet _ []; exact rfl; decide +kernel; exact rfl; intro R; refine ⟨_, (by repeat constructor), ?_⟩;
             fail)
        first
          | (apply Par.skip; exact rfl; decide +kernel; exact rfl)
          | (apply Par.quiet _ []; exact rfl; decide +kernel; exact rfl; intro R; refine ⟨_, (by repeat constructor), ?_⟩;
             fail)
        first
          | (apply Par.skip; exact rfl; decide +kernel; exact rfl)
          | (apply Par.quiet _ []; exact rfl; decide +kernel; exact rfl; intro R; refine ⟨_, (by repeat constructor), ?_⟩;
             fail)
        first
          | (apply Par.skip; exact rfl; decide +kernel; exact rfl)
          | (apply Par.quiet _ []; exact rfl; decide +kernel; exact rfl; intro R; refine ⟨_, (by repeat constructor), ?_⟩;
             fail)
        (apply Par.skip; exact rfl; decide +kernel; exact rfl)
        (apply Par.quiet _ []; exact rfl; decide +kernel; exact rfl; intro R; refine ⟨_, (by repeat constructor), ?_⟩;
             (first | (apply EvW.pickF; exact rfl; exact rfl)))
        (apply Par.quiet _ []; exact rfl; decide +kernel; exact rfl; intro R; refine ⟨_, (by repeat constructor), ?_⟩;
             (first | (apply EvW.assign; exact rfl)))
        exact Par.nil
      · repeat (first | exact AllN.nil | (apply AllN.cons; (intro c x; (repeat (first | exact IndA.nil | (apply IndA.skip; decide +kernel) | apply IndA.same))))) 
      · repeat (first | exact AllN.nil | (apply AllN.cons; (intro c x; (repeat (first | exact IndT.nil | (apply IndT.skip; decide +kernel) | apply IndT.same))))) 
      · exact fun _ => rfl
      intro c
      refine ⟨_, (by repeat constructor), ?_⟩
      apply WE.writ
      · (focus ((repeat (first | exact Writ.nil | apply Writ.some | apply Writ.none)); done))
      repeat first
        | refine WE.next ?_ | refine WC.ret ?_
      refine WE.ret1 rfl rfl ?_
      exact ⟨rfl, rfl⟩
  · rw [aliveP_out (fun h => h0 h.1)] at hg
    subst hg
    repeat first
      | (apply WL.q; exact rfl; exact rfl; exact rfl; (first | (apply EvW.assign; exact rfl)))
      | refine WC.seq ?_ | refine WC.region ?_ | refine WL.nil ?_ | refine WE.next ?_
    repeat refine WC.seq ?_
    refine WC.keep (xs := []) (by repeat constructor) ?_
    apply WC.par _ (fun c : Ch => []) [] [] [] Try.mixed
    · (focus ((repeat (first | exact Restr.nil | (apply Restr.keep; exact rfl; exact rfl) | (apply Restr.drop; exact rfl))); done))
    · intro c; exact (by repeat constructor)
    · exact rfl
    · decide +kernel
    · decide +kernel
    · intro c
      (apply Par.quiet _ []; exact rfl; decide +kernel; exact rfl; intro R; refine ⟨_, (by repeat constructor), ?_⟩;
           (first | (apply EvW.move; exact rfl)))
      (apply Par.quiet _ []; exact rfl; decide +kernel; exact rfl; intro R; refine ⟨_, (by repeat constructor), ?_⟩;
           (first | (apply EvW.cmpF; exact rfl; exact rfl; exact rfl; omega)))
      (apply Par.quiet _ []; exact rfl; decide +kernel; exact rfl; intro R; refine ⟨_, (by repeat constructor), ?_⟩;
           (first | (apply EvW.move; exact rfl)))
      first
        | (apply Par.skip; exact rfl; decide +kernel; exact rfl)
        | (apply Par.quiet _ []; exact rfl; decide +kernel; exact rfl; intro R; refine ⟨_, (by repeat constructor), ?_⟩;
           fail)
      first
        | (apply Par.skip; exact rfl; decide +kernel; exact rfl)
        | (apply Par.quiet _ []; exact rfl; decide +kernel; exact rfl; intro R; refine ⟨_, (by repeat constructor), ?_⟩;
           fail)
      first
        | (apply Par.skip; exact rfl; decide +kernel; exact rfl)
        | (apply Par.quiet _ []; exact rfl; decide +kernel; exact rfl; intro R; refine ⟨_, (by repeat constructor), ?_⟩;
           fail)
      first
        | (apply Par.skip; exact rfl; decide +kernel; exact rfl)
        | (apply Par.quiet _ []; exact rfl; decide +kernel; exact rfl; intro R; refine ⟨_, (by repeat constructor), ?_⟩;
           fail)
      first
        | (apply Par.skip; exact rfl; decide +kernel; exact rfl)
        | (apply Par.quiet _ []; exact rfl; decide +kernel; exact rfl; intro R; refine ⟨_, (by repeat constructor), ?_⟩;
           fail)
      first
        | (apply Par.skip; exact rfl; decide +kernel; exact rfl)
        | (apply Par.quiet _ []; exact rfl; decide +kernel; exact rfl; intro R; refine ⟨_, (by repeat constructor), ?_⟩;
           fail)
      first
        | (apply Par.skip; exact rfl; decide +kernel; exact rfl)
        | (apply Par.quiet _ []; exact rfl; decide +kernel; exact rfl; intro R; refine ⟨_, (by repeat constructor), ?_⟩;
           fail)
      (apply Par.quiet _ []; exact rfl; decide +kernel; exact rfl; intro R; refine ⟨_, (by repeat constructor), ?_⟩;
           (first | (apply EvW.pickF; exact rfl; exact rfl)))
      (apply Par.quiet _ []; exact rfl; decide +kernel; exact rfl; intro R; refine ⟨_, (by repeat constructor), ?_⟩;
           (first | (apply EvW.move; exact rfl)))
      first
        | (apply Par.skip; exact rfl; decide +kernel; exact rfl)
        | (apply Par.quiet _ []; exact rfl; decide +kernel; exact rfl; intro R; refine ⟨_, (by repeat constructor), ?_⟩;
           fail)
      first
        | (apply Par.skip; exact rfl; decide +kernel; exact rfl)
        | (apply Par.quiet _ []; exact rfl; decide +kernel; exact rfl; intro R; refine ⟨_, (by repeat constructor), ?_⟩;
           fail)
      first
        | (apply Par.skip; exact rfl; decide +kernel; exact rfl)
        | (apply Par.quiet _ []; exact rfl; decide +kernel; exact rfl; intro R; refine ⟨_, (by repeat constructor), ?_⟩;
           fail)
      first
        | (apply Par.skip; exact rfl; decide +kernel; exact rfl)
        | (apply Par.quiet _ []; exact rfl; decide +kernel; exact rfl; intro R; refine ⟨_, (by repeat constructor), ?_⟩;
           fail)
      first
        | (apply Par.skip; exact rfl; decide +kernel; exact rfl)
        | (apply Par.quiet _ []; exact rfl; decide +kernel; exact rfl; intro R; refine ⟨_, (by repeat constructor), ?_⟩;
           fail)
      first
        | (apply Par.skip; exact rfl; decide +kernel; exact rfl)
        | (apply Par.quiet _ []; exact rfl; decide +kernel; exact rfl; intro R; refine ⟨_, (by repeat constructor), ?_⟩;
           fail)
      first
        | (apply Par.skip; exact rfl; decide +kernel; exact rfl)
        | (apply Par.quiet _ []; exact rfl; decide +kernel; exact rfl; intro R; refine ⟨_, (by repeat constructor), ?_⟩;
           fail)
      first
        | (apply Par.skip; exact rfl; decide +kernel; exact rfl)
        | (apply Par.quiet _ []; exact rfl; decide +kernel; exact rfl; intro R; refine ⟨_, (by repeat constructor), ?_⟩;
           fail)
      first
        | (apply Par.skip; exact rfl; decide +kernel; exact rfl)
        | (apply Par.quiet _ []; exact rfl; decide +kernel; exact rfl; intro R; refine ⟨_, (by repeat constructor), ?_⟩;
           fail)
      first
        | (apply Par.skip; exact rfl; decide +kernel; exact rfl)
        | (apply Par.quiet _ []; exact rfl; decide +kernel; exact rfl; intro R; refine ⟨_, (by repeat constructor), ?_⟩;
           fail)
      first
        | (apply Par.skip; exact rfl; decide +kernel; exact rfl)
        | (apply Par.quiet _ []; exact rfl; decide +kernel; exact rfl; intro R; refine ⟨_, (by repeat constructor), ?_⟩;
           fail)
      first
        | (apply Par.skip; exact rfl; decide +kernel; exact rfl)
        | (apply Par.quiet _ []; exact rfl; decide +kernel; exact rfl; intro R; refine ⟨_, (by repeat constructor), ?_⟩;
           fail)
      first
        | (apply Par.skip; exact rfl; decide +kernel; exact rfl)
        | (apply Par.quiet _ []; exact rfl; decide +kernel; exact rfl; intro R; refine ⟨_, (by repeat constructor), ?_⟩;
           fail)
      first
        | (apply Par.skip; exact rfl; decide +kernel; exact rfl)
        | (apply Par.quiet _ []; exact rfl; decide +kernel; exact rfl; intro R; refine ⟨_, (by repeat constructor), ?_⟩;
           fail)
      (apply Par.skip; exact rfl; decide +kernel; exact rfl)
      (apply Par.quiet _ []; exact rfl; decide +kernel; exact rfl; intro R; refine ⟨_, (by repeat constructor), ?_⟩;
           (first | (apply EvW.pickF; exact rfl; exact rfl)))
      (apply Par.quiet _ []; exact rfl; decide +kernel; exact rfl; intro R; refine ⟨_, (by repeat constructor), ?_⟩;
           (first | (apply EvW.assign; exact rfl)))
      exact Par.nil
    · repeat (first | exact AllN.nil | (apply AllN.cons; (intro c x; (repeat (first | exact IndA.nil | (apply IndA.skip; decide +kernel) | apply IndA.same))))) 
    · repeat (first | exact AllN.nil | (apply AllN.cons; (intro c x; (repeat (first | exact IndT.nil | (apply IndT.skip; decide +kernel) | apply IndT.same))))) 
    · exact fun _ => rfl
    intro c
    refine ⟨_, (by repeat constructor), ?_⟩
    apply WE.writ
    · (focus ((repeat (first | exact Writ.nil | apply Writ.some | apply Writ.none)); done))
    repeat first
      | refine WE.next ?_ | refine WC.ret ?_
    refine WE.ret1 rfl rfl ?_
    exact ⟨rfl, rfl⟩
/-- Where a number stands in a list; -1: nowhere. -/
def atF : List Int → Int → Int
  | [], _ => -1
  | y :: l, x => if y = x then 0 else if atF l x < 0 then -1 else atF l x + 1
theorem atF_lo (x : Int) : ∀ l : List Int, -1 ≤ atF l x ∧ atF l x < l.length
  | [] => ⟨by simp [atF], by simp [atF]⟩
  | y :: l => by
    obtain ⟨h1, h2⟩ := atF_lo x l
    unfold atF
    simp only [List.length_cons]
    split
    · omega
    split <;> omega
theorem atF_app (x : Int) (l : List Int) : ∀ a : List Int, (∀ j, j < a.length → a.getD j 0 ≠ x) → atF (a ++ x :: l) x = a.length
  | [], _ => by simp [atF]
  | y :: a, h => by
    have h1 := atF_app x l a fun j hj => by have := h (j + 1) (by simp; omega); simpa using this
    have h0 : y ≠ x := by have := h 0 (by simp); simpa using this
    show (if y = x then 0 else if atF (a ++ x :: l) x < 0 then -1 else atF (a ++ x :: l) x + 1) = _
    rw [if_neg h0, h1, if_neg (by omega), List.length_cons]; rfl
theorem atF_none (x : Int) : ∀ a : List Int, (∀ j, j < a.length → a.getD j 0 ≠ x) → atF a x = -1
  | [], _ => rfl
  | y :: a, h => by
    have h1 := atF_none x a fun j hj => by have := h (j + 1) (by simp; omega); simpa using this
    have h0 : y ≠ x := by have := h 0 (by simp); simpa using this
    show (if y = x then 0 else if atF a x < 0 then -1 else atF a x + 1) = _
    rw [if_neg h0, h1]; rfl
theorem atF_at {x : Int} {xs : List Int} {i : Nat} (hi : i < xs.length) (h : ∀ j, j < i → xs.getD j 0 ≠ x) (he : xs.getD i 0 = x) : atF xs x = i := by
  have e : xs = xs.take i ++ x :: xs.drop (i + 1) := by
    conv => lhs; rw [← List.take_append_drop i xs]
    rw [List.drop_eq_getElem_cons hi]
    have : xs[i] = x := by rw [← he, List.getD_eq_getElem?_getD, List.getElem?_eq_getElem hi]; rfl
    rw [this]
  rw [e, atF_app]
  · rw [List.length_take]; omega
  · intro j hj
    rw [List.length_take] at hj
    rw [List.getD_eq_getElem?_getD, List.getElem?_take_of_lt (by omega), ← List.getD_eq_getElem?_getD]
    exact h j (by omega)
theorem upto_stepI {i : Nat} {P : Nat → Prop} (h : ∀ j, j < i → P j) (h' : P i) : ∀ j, j < i + 1 → P j := fun j hj => (Nat.lt_succ_iff_lt_or_eq.1 hj).elim (h j) (fun e => e ▸ h')
theorem indexI_spec (xs : List Int) (v : Value) (x : Int) (w : World) (S : BSet) (hS : (sepL []).sat S w) (hv : Sees w S (.row 1 v xs.length (xs.map i64))) (hn : xs.length ≤ 17592186044416) :
    Tri Try.prog 61 #[v, i64 x] w S fun u A => u = i64 (atF xs x) ∧ A = [] := by
  refine Tri.enter (l := [v, i64 x]) Try.func61 rfl Try.ntmps61 rfl [(0, v), (1, i64 x)] (subA rfl) hS ?_
  repeat first
    | (apply WL.q; exact rfl; exact rfl; exact rfl; (first | (apply EvW.move; exact rfl) | (apply EvW.assign; exact rfl) | (apply EvW.lenRow; exact rfl; exact UndC.eq; assumption)))
    | refine WC.seq ?_ | refine WC.region ?_ | refine WL.nil ?_ | refine WE.next ?_ | refine WC.block ?_
  refine WC.loopK (σ := Nat) [0, 1, 7] (fun s => [(8, i64 s)]) (fun s => []) (fun s => s ≤ xs.length ∧ ∀ j, j < s → xs.getD j 0 ≠ x) (fun s => xs.length - s) 0 (by (focus ((repeat (first | exact Pick.nil | (apply Pick.cons; exact rfl))); done))) (by (focus ((repeat (first | exact trivial | (refine ⟨rfl, ?_⟩))); done))) (fun _ h => h.keep (by repeat constructor)) ⟨Nat.zero_le _, fun j hj => absurd hj (Nat.not_lt_zero j)⟩ (fun s hs => ?_)
  obtain ⟨i, rfl⟩ : ∃ q, q = s := ⟨s, rfl⟩
  simp only [List.cons_append, List.nil_append] at hs ⊢
  by_cases hlt : (i : Int) < xs.length
  · have hin : (((i : Nat) : Int)).toNat = i := Int.toNat_natCast i
    by_cases he : x = xs.getD ((i : Nat) : Int).toNat 0
    · have hat := atF_at (x := x) (xs := xs) (i := i) (by omega) hs.2 he.symm
      repeat first
        | (apply WL.q; exact rfl; exact rfl; exact rfl; (first | (apply EvW.move; exact rfl) | (apply EvW.assign; exact rfl) | (apply EvW.cmpT; exact rfl; exact rfl; exact rfl; omega) | (apply EvW.idxRow; exact rfl; exact rfl; exact UndC.eq; exact SzC.eq; assumption; omega; omega) | (apply EvW.ldInt; exact rfl; exact ScalC.eq; assumption; omega)))
        | refine WC.seq ?_ | refine WC.region ?_ | refine WL.nil ?_ | refine WE.next ?_ | refine WC.block ?_ | refine WC.skip ?_ | refine WC.condT rfl ?_ | refine WC.ret ?_ | refine WE.passRet ?_ | refine WE.outRet ?_
      refine WE.bare ?_
      refine WE.ret1 rfl rfl ?_
      exact ⟨by rw [hat], rfl⟩
    · repeat first
        | (apply WL.q; exact rfl; exact rfl; exact rfl; (first | (apply EvW.move; exact rfl) | (apply EvW.assign; exact rfl) | (apply EvW.cmpT; exact rfl; exact rfl; exact rfl; omega) | (apply EvW.cmpF; exact rfl; exact rfl; exact rfl; omega) | (apply EvW.arN; exact rfl; exact rfl; exact rfl; refine i64_in ?_ ?_ <;> omega) | (apply EvW.idxRow; exact rfl; exact rfl; exact UndC.eq; exact SzC.eq; assumption; omega; omega) | (apply EvW.ldInt; exact rfl; exact ScalC.eq; assumption; omega)))
        | refine WC.seq ?_ | refine WC.region ?_ | refine WL.nil ?_ | refine WE.next ?_ | refine WC.block ?_ | refine WC.skip ?_ | refine WE.out ?_ | refine WC.condT rfl ?_ | refine WC.condF rfl ?_
      exact WE.again (s := i) ((i + 1)) ⟨by omega, upto_stepI hs.2 (by rw [← hin]; exact fun h => he h.symm)⟩ (by (focus ((repeat (first | exact trivial | (refine ⟨rfl, ?_⟩))); done))) (fun _ h => (by (try simp only []); exact h.keep (by repeat constructor))) (by (try simp only []); omega)
  · have hat := atF_none x xs (fun j hj => hs.2 j (by omega))
    repeat first
      | (apply WL.q; exact rfl; exact rfl; exact rfl; (first | (apply EvW.assign; exact rfl) | (apply EvW.cmpF; exact rfl; exact rfl; exact rfl; omega)))
      | refine WC.seq ?_ | refine WC.region ?_ | refine WL.nil ?_ | refine WE.next ?_ | refine WC.exit ?_ | refine WE.pass ?_ | refine WE.hit ?_ | refine WC.condF rfl ?_ | refine WC.ret ?_
    refine WE.bare ?_
    refine WE.ret1 rfl rfl ?_
    exact ⟨by rw [hat], rfl⟩
end Go.Proofs.Ytamofjpadnnppaa
namespace Go.Proofs.Ytamofjpadnnppaa
open Go.RowKit Go.BK
def ocOf (c : Cfg) (s : Int) : Int := if 0 ≤ s ∧ s < c.secs.length then (c.secs.getD s.toNat default).oc else -1
def lookP (al : Bool) (i : Int) (said : List Int) (st worst : Int) : Int × Int × Bool := if al = true ∧ 0 ≤ i ∧ i < said.length then (said.getD i.toNat 0, st, true) else (worst, -1, false)
def lkC (l : Int × Int × Bool) : List Value := [i64 l.1, i64 l.2.1, .bool l.2.2]
theorem lookP_dead {i : Int} {said : List Int} {st worst : Int} : lookP false i said st worst = (worst, -1, false) := by unfold lookP; rw [if_neg (fun h => by cases h.1)]
theorem lookP_none {al : Bool} {i : Int} {said : List Int} {st worst : Int} (h : i < 0) : lookP al i said st worst = (worst, -1, false) := by unfold lookP; rw [if_neg (by omega)]
theorem lookP_some {i : Int} {said : List Int} {st worst : Int} (h : 0 ≤ i) (h2 : i < said.length) : lookP true i said st worst = (said.getD i.toNat 0, st, true) := by unfold lookP; rw [if_pos ⟨rfl, h, h2⟩]
abbrev Sel := Q4 → Value × List Int
def selA : Sel := fun q => (q.a, q.la)
def selB : Sel := fun q => (q.b, q.lb)
def selY : Sel := fun q => (q.y, q.ly)
def selD : Sel := fun q => (q.d, q.ld)
/-- What an element's voice tells of it. -/
def Img.lookV (x : Img) (sel : Sel) (now sec el worst : Int) : Int × Int × Bool :=
  lookP (aliveP x.st now x.c.age (ocOf x.c sec)) (atF (sel ((x.vs.getD (ocOf x.c sec).toNat default)).sh).2 el) (sel ((x.vs.getD (ocOf x.c sec).toNat default)).sd).2 ((x.vs.getD (ocOf x.c sec).toNat default)).stamp worst
structure Img.Good (x : Img) (now : Int) (sel : Sel) : Prop where
  row : ∀ {v : Q4} {w : World} {S : BSet}, v.Seen w S → Sees w S (.row 1 (sel v).1 (sel v).2.length ((sel v).2.map i64)) ∧ (sel v).2.length ≤ 17592186044416
  len : ∀ oc, aliveP x.st now x.c.age oc = true → (sel ((x.vs.getD oc.toNat default)).sd).2.length = (sel ((x.vs.getD oc.toNat default)).sh).2.length
structure Place (f : FuncId) (sel : Sel) : Prop where
  call : ∀ (l : Array Value) (w : World), (callFunc f l).run Try.prog w = .ok (.enter f l) w
  ans : ∀ (v : Voice) (w : World) (S : BSet), (sepL []).sat S w → Sees w S (.blk (v).b #[ptr (v).r 0, (v).sh.a, (v).sh.b, (v).sh.y, (v).sh.d, (v).sd.a, (v).sd.b, (v).sd.y, (v).sd.d, i64 (v).stamp] 78) → Tri Try.prog f #[ptr v.b 0] w S fun u A => u = .tuple #[(sel v.sh).1, (sel v.sd).1] ∧ A = []
theorem place1_spec (v : Voice) (w : World) (S : BSet) (hS : (sepL []).sat S w) (hv : Sees w S (.blk (v).b #[ptr (v).r 0, (v).sh.a, (v).sh.b, (v).sh.y, (v).sh.d, (v).sd.a, (v).sd.b, (v).sd.y, (v).sd.d, i64 (v).stamp] 78)) :
    Tri Try.prog 33 #[ptr v.b 0] w S fun u A => u = .tuple #[v.sh.a, v.sd.a] ∧ A = [] := by
  refine Tri.enter (l := [ptr v.b 0]) Try.func33 rfl Try.ntmps33 rfl [(0, ptr v.b 0)] (subA rfl) hS ?_
  repeat first
    | (apply WL.q; exact rfl; exact rfl; exact rfl; (first | (apply EvW.assign; exact rfl)))
    | refine WC.seq ?_ | refine WC.region ?_ | refine WL.nil ?_ | refine WE.next ?_
  repeat refine WC.seq ?_
  refine WC.keep (xs := []) (by repeat constructor) ?_
  apply WC.par _ (fun c : Ch => []) [] [] [] Try.mixed
  · (focus ((repeat (first | exact Restr.nil | (apply Restr.keep; exact rfl; exact rfl) | (apply Restr.drop; exact rfl))); done))
  · intro c; exact (by repeat constructor)
  · exact rfl
  · decide +kernel
  · decide +kernel
  · intro c
    (apply Par.quiet _ []; exact rfl; decide +kernel; exact rfl; intro R; refine ⟨_, (by repeat constructor), ?_⟩;
         (first | (apply EvW.move; exact rfl)))
    (apply Par.quiet _ []; exact rfl; decide +kernel; exact rfl; intro R; refine ⟨_, (by repeat constructor), ?_⟩;
         (first | (apply EvW.nilPtr; exact rfl)))
    (apply Par.quiet _ []; exact rfl; decide +kernel; exact rfl; intro R; refine ⟨_, (by repeat constructor), ?_⟩;
         (first | (apply EvW.fieldAddr0; exact rfl; exact FldC.eq)))
    (apply Par.quiet _ []; exact rfl; decide +kernel; exact rfl; intro R; refine ⟨_, (by repeat constructor), ?_⟩;
         (first | (apply EvW.fieldAddr; exact rfl; exact FldC.eq)))
    (apply Par.quiet _ []; exact rfl; decide +kernel; exact rfl; intro R; refine ⟨_, (by repeat constructor), ?_⟩;
         (first | (apply EvW.ldSeen; exact rfl; exact ScalC.eq; assumption; (first | exact rfl | assumption))))
    (apply Par.quiet _ []; exact rfl; decide +kernel; exact rfl; intro R; refine ⟨_, (by repeat constructor), ?_⟩;
         (first | (apply EvW.move; exact rfl)))
    (apply Par.quiet _ []; exact rfl; decide +kernel; exact rfl; intro R; refine ⟨_, (by repeat constructor), ?_⟩;
         (first | (apply EvW.nilPtr; exact rfl)))
    (apply Par.quiet _ []; exact rfl; decide +kernel; exact rfl; intro R; refine ⟨_, (by repeat constructor), ?_⟩;
         (first | (apply EvW.fieldAddr0; exact rfl; exact FldC.eq)))
    (apply Par.quiet _ []; exact rfl; decide +kernel; exact rfl; intro R; refine ⟨_, (by repeat constructor), ?_⟩;
         (first | (apply EvW.fieldAddr; exact rfl; exact FldC.eq)))
    (apply Par.quiet _ []; exact rfl; decide +kernel; exact rfl; intro R; refine ⟨_, (by repeat constructor), ?_⟩;
         (first | (apply EvW.ldSeen; exact rfl; exact ScalC.eq; assumption; (first | exact rfl | assumption))))
    (apply Par.quiet _ []; exact rfl; decide +kernel; exact rfl; intro R; refine ⟨_, (by repeat constructor), ?_⟩;
         (first | (apply EvW.assign; exact rfl)))
    (apply Par.quiet _ []; exact rfl; decide +kernel; exact rfl; intro R; refine ⟨_, (by repeat constructor), ?_⟩;
         (first | (apply EvW.assign; exact rfl)))
    exact Par.nil
  · repeat (first | exact AllN.nil | (apply AllN.cons; (intro c x; (repeat (first | exact IndA.nil | (apply IndA.skip; decide +kernel) | apply IndA.same))))) 
  · repeat (first | exact AllN.nil | (apply AllN.cons; (intro c x; (repeat (first | exact IndT.nil | (apply IndT.skip; decide +kernel) | apply IndT.same))))) 
  · exact fun _ => rfl
  intro c
  refine ⟨_, (by repeat constructor), ?_⟩
  apply WE.writ
  · (focus ((repeat (first | exact Writ.nil | apply Writ.some | apply Writ.none)); done))
  repeat first
    | refine WE.next ?_ | refine WC.ret ?_
  refine WE.retN (l := [2, 3]) rfl rfl rfl ?_
  exact ⟨rfl, rfl⟩
theorem place2_spec (v : Voice) (w : World) (S : BSet) (hS : (sepL []).sat S w) (hv : Sees w S (.blk (v).b #[ptr (v).r 0, (v).sh.a, (v).sh.b, (v).sh.y, (v).sh.d, (v).sd.a, (v).sd.b, (v).sd.y, (v).sd.d, i64 (v).stamp] 78)) :
    Tri Try.prog 34 #[ptr v.b 0] w S fun u A => u = .tuple #[v.sh.b, v.sd.b] ∧ A = [] := by
  refine Tri.enter (l := [ptr v.b 0]) Try.func34 rfl Try.ntmps34 rfl [(0, ptr v.b 0)] (subA rfl) hS ?_
  repeat first
    | (apply WL.q; exact rfl; exact rfl; exact rfl; (first | (apply EvW.assign; exact rfl)))
    | refine WC.seq ?_ | refine WC.region ?_ | refine WL.nil ?_ | refine WE.next ?_
  repeat refine WC.seq ?_
  refine WC.keep (xs := []) (by repeat constructor) ?_
  apply WC.par _ (fun c : Ch => []) [] [] [] Try.mixed
  · (focus ((repeat (first | exact Restr.nil | (apply Restr.keep; exact rfl; exact rfl) | (apply Restr.drop; exact rfl))); done))
  · intro c; exact (by repeat constructor)
  · exact rfl
  · decide +kernel
  · decide +kernel
  · intro c
    (apply Par.quiet _ []; exact rfl; decide +kernel; exact rfl; intro R; refine ⟨_, (by repeat constructor), ?_⟩;
         (first | (apply EvW.move; exact rfl)))
    (apply Par.quiet _ []; exact rfl; decide +kernel; exact rfl; intro R; refine ⟨_, (by repeat constructor), ?_⟩;
         (first | (apply EvW.nilPtr; exact rfl)))
    (apply Par.quiet _ []; exact rfl; decide +kernel; exact rfl; intro R; refine ⟨_, (by repeat constructor), ?_⟩;
         (first | (apply EvW.fieldAddr0; exact rfl; exact FldC.eq)))
    (apply Par.quiet _ []; exact rfl; decide +kernel; exact rfl; intro R; refine ⟨_, (by repeat constructor), ?_⟩;
         (first | (apply EvW.fieldAddr; exact rfl; exact FldC.eq)))
    (apply Par.quiet _ []; exact rfl; decide +kernel; exact rfl; intro R; refine ⟨_, (by repeat constructor), ?_⟩;
         (first | (apply EvW.ldSeen; exact rfl; exact ScalC.eq; assumption; (first | exact rfl | assumption))))
    (apply Par.quiet _ []; exact rfl; decide +kernel; exact rfl; intro R; refine ⟨_, (by repeat constructor), ?_⟩;
         (first | (apply EvW.move; exact rfl)))
    (apply Par.quiet _ []; exact rfl; decide +kernel; exact rfl; intro R; refine ⟨_, (by repeat constructor), ?_⟩;
         (first | (apply EvW.nilPtr; exact rfl)))
    (apply Par.quiet _ []; exact rfl; decide +kernel; exact rfl; intro R; refine ⟨_, (by repeat constructor), ?_⟩;
         (first | (apply EvW.fieldAddr0; exact rfl; exact FldC.eq)))
    (apply Par.quiet _ []; exact rfl; decide +kernel; exact rfl; intro R; refine ⟨_, (by repeat constructor), ?_⟩;
         (first | (apply EvW.fieldAddr; exact rfl; exact FldC.eq)))
    (apply Par.quiet _ []; exact rfl; decide +kernel; exact rfl; intro R; refine ⟨_, (by repeat constructor), ?_⟩;
         (first | (apply EvW.ldSeen; exact rfl; exact ScalC.eq; assumption; (first | exact rfl | assumption))))
    (apply Par.quiet _ []; exact rfl; decide +kernel; exact rfl; intro R; refine ⟨_, (by repeat constructor), ?_⟩;
         (first | (apply EvW.assign; exact rfl)))
    (apply Par.quiet _ []; exact rfl; decide +kernel; exact rfl; intro R; refine ⟨_, (by repeat constructor), ?_⟩;
         (first | (apply EvW.assign; exact rfl)))
    exact Par.nil
  · repeat (first | exact AllN.nil | (apply AllN.cons; (intro c x; (repeat (first | exact IndA.nil | (apply IndA.skip; decide +kernel) | apply IndA.same))))) 
  · repeat (first | exact AllN.nil | (apply AllN.cons; (intro c x; (repeat (first | exact IndT.nil | (apply IndT.skip; decide +kernel) | apply IndT.same))))) 
  · exact fun _ => rfl
  intro c
  refine ⟨_, (by repeat constructor), ?_⟩
  apply WE.writ
  · (focus ((repeat (first | exact Writ.nil | apply Writ.some | apply Writ.none)); done))
  repeat first
    | refine WE.next ?_ | refine WC.ret ?_
  refine WE.retN (l := [2, 3]) rfl rfl rfl ?_
  exact ⟨rfl, rfl⟩
theorem place3_spec (v : Voice) (w : World) (S : BSet) (hS : (sepL []).sat S w) (hv : Sees w S (.blk (v).b #[ptr (v).r 0, (v).sh.a, (v).sh.b, (v).sh.y, (v).sh.d, (v).sd.a, (v).sd.b, (v).sd.y, (v).sd.d, i64 (v).stamp] 78)) :
    Tri Try.prog 35 #[ptr v.b 0] w S fun u A => u = .tuple #[v.sh.y, v.sd.y] ∧ A = [] := by
  refine Tri.enter (l := [ptr v.b 0]) Try.func35 rfl Try.ntmps35 rfl [(0, ptr v.b 0)] (subA rfl) hS ?_
  repeat first
    | (apply WL.q; exact rfl; exact rfl; exact rfl; (first | (apply EvW.assign; exact rfl)))
    | refine WC.seq ?_ | refine WC.region ?_ | refine WL.nil ?_ | refine WE.next ?_
  repeat refine WC.seq ?_
  refine WC.keep (xs := []) (by repeat constructor) ?_
  apply WC.par _ (fun c : Ch => []) [] [] [] Try.mixed
  · (focus ((repeat (first | exact Restr.nil | (apply Restr.keep; exact rfl; exact rfl) | (apply Restr.drop; exact rfl))); done))
  · intro c; exact (by repeat constructor)
  · exact rfl
  · decide +kernel
  · decide +kernel
  · intro c
    (apply Par.quiet _ []; exact rfl; decide +kernel; exact rfl; intro R; refine ⟨_, (by repeat constructor), ?_⟩;
         (first | (apply EvW.move; exact rfl)))
    (apply Par.quiet _ []; exact rfl; decide +kernel; exact rfl; intro R; refine ⟨_, (by repeat constructor), ?_⟩;
         (first | (apply EvW.nilPtr; exact rfl)))
    (apply Par.quiet _ []; exact rfl; decide +kernel; exact rfl; intro R; refine ⟨_, (by repeat constructor), ?_⟩;
         (first | (apply EvW.fieldAddr0; exact rfl; exact FldC.eq)))
    (apply Par.quiet _ []; exact rfl; decide +kernel; exact rfl; intro R; refine ⟨_, (by repeat constructor), ?_⟩;
         (first | (apply EvW.fieldAddr; exact rfl; exact FldC.eq)))
    (apply Par.quiet _ []; exact rfl; decide +kernel; exact rfl; intro R; refine ⟨_, (by repeat constructor), ?_⟩;
         (first | (apply EvW.ldSeen; exact rfl; exact ScalC.eq; assumption; (first | exact rfl | assumption))))
    (apply Par.quiet _ []; exact rfl; decide +kernel; exact rfl; intro R; refine ⟨_, (by repeat constructor), ?_⟩;
         (first | (apply EvW.move; exact rfl)))
    (apply Par.quiet _ []; exact rfl; decide +kernel; exact rfl; intro R; refine ⟨_, (by repeat constructor), ?_⟩;
         (first | (apply EvW.nilPtr; exact rfl)))
    (apply Par.quiet _ []; exact rfl; decide +kernel; exact rfl; intro R; refine ⟨_, (by repeat constructor), ?_⟩;
         (first | (apply EvW.fieldAddr0; exact rfl; exact FldC.eq)))
    (apply Par.quiet _ []; exact rfl; decide +kernel; exact rfl; intro R; refine ⟨_, (by repeat constructor), ?_⟩;
         (first | (apply EvW.fieldAddr; exact rfl; exact FldC.eq)))
    (apply Par.quiet _ []; exact rfl; decide +kernel; exact rfl; intro R; refine ⟨_, (by repeat constructor), ?_⟩;
         (first | (apply EvW.ldSeen; exact rfl; exact ScalC.eq; assumption; (first | exact rfl | assumption))))
    (apply Par.quiet _ []; exact rfl; decide +kernel; exact rfl; intro R; refine ⟨_, (by repeat constructor), ?_⟩;
         (first | (apply EvW.assign; exact rfl)))
    (apply Par.quiet _ []; exact rfl; decide +kernel; exact rfl; intro R; refine ⟨_, (by repeat constructor), ?_⟩;
         (first | (apply EvW.assign; exact rfl)))
    exact Par.nil
  · repeat (first | exact AllN.nil | (apply AllN.cons; (intro c x; (repeat (first | exact IndA.nil | (apply IndA.skip; decide +kernel) | apply IndA.same))))) 
  · repeat (first | exact AllN.nil | (apply AllN.cons; (intro c x; (repeat (first | exact IndT.nil | (apply IndT.skip; decide +kernel) | apply IndT.same))))) 
  · exact fun _ => rfl
  intro c
  refine ⟨_, (by repeat constructor), ?_⟩
  apply WE.writ
  · (focus ((repeat (first | exact Writ.nil | apply Writ.some | apply Writ.none)); done))
  repeat first
    | refine WE.next ?_ | refine WC.ret ?_
  refine WE.retN (l := [2, 3]) rfl rfl rfl ?_
  exact ⟨rfl, rfl⟩
theorem place4_spec (v : Voice) (w : World) (S : BSet) (hS : (sepL []).sat S w) (hv : Sees w S (.blk (v).b #[ptr (v).r 0, (v).sh.a, (v).sh.b, (v).sh.y, (v).sh.d, (v).sd.a, (v).sd.b, (v).sd.y, (v).sd.d, i64 (v).stamp] 78)) :
    Tri Try.prog 36 #[ptr v.b 0] w S fun u A => u = .tuple #[v.sh.d, v.sd.d] ∧ A = [] := by
  refine Tri.enter (l := [ptr v.b 0]) Try.func36 rfl Try.ntmps36 rfl [(0, ptr v.b 0)] (subA rfl) hS ?_
  repeat first
    | (apply WL.q; exact rfl; exact rfl; exact rfl; (first | (apply EvW.assign; exact rfl)))
    | refine WC.seq ?_ | refine WC.region ?_ | refine WL.nil ?_ | refine WE.next ?_
  repeat refine WC.seq ?_
  refine WC.keep (xs := []) (by repeat constructor) ?_
  apply WC.par _ (fun c : Ch => []) [] [] [] Try.mixed
  · (focus ((repeat (first | exact Restr.nil | (apply Restr.keep; exact rfl; exact rfl) | (apply Restr.drop; exact rfl))); done))
  · intro c; exact (by repeat constructor)
  · exact rfl
  · decide +kernel
  · decide +kernel
  · intro c
    (apply Par.quiet _ []; exact rfl; decide +kernel; exact rfl; intro R; refine ⟨_, (by repeat constructor), ?_⟩;
         (first | (apply EvW.move; exact rfl)))
    (apply Par.quiet _ []; exact rfl; decide +kernel; exact rfl; intro R; refine ⟨_, (by repeat constructor), ?_⟩;
         (first | (apply EvW.nilPtr; exact rfl)))
    (apply Par.quiet _ []; exact rfl; decide +kernel; exact rfl; intro R; refine ⟨_, (by repeat constructor), ?_⟩;
         (first | (apply EvW.fieldAddr0; exact rfl; exact FldC.eq)))
    (apply Par.quiet _ []; exact rfl; decide +kernel; exact rfl; intro R; refine ⟨_, (by repeat constructor), ?_⟩;
         (first | (apply EvW.fieldAddr; exact rfl; exact FldC.eq)))
    (apply Par.quiet _ []; exact rfl; decide +kernel; exact rfl; intro R; refine ⟨_, (by repeat constructor), ?_⟩;
         (first | (apply EvW.ldSeen; exact rfl; exact ScalC.eq; assumption; (first | exact rfl | assumption))))
    (apply Par.quiet _ []; exact rfl; decide +kernel; exact rfl; intro R; refine ⟨_, (by repeat constructor), ?_⟩;
         (first | (apply EvW.move; exact rfl)))
    (apply Par.quiet _ []; exact rfl; decide +kernel; exact rfl; intro R; refine ⟨_, (by repeat constructor), ?_⟩;
         (first | (apply EvW.nilPtr; exact rfl)))
    (apply Par.quiet _ []; exact rfl; decide +kernel; exact rfl; intro R; refine ⟨_, (by repeat constructor), ?_⟩;
         (first | (apply EvW.fieldAddr0; exact rfl; exact FldC.eq)))
    (apply Par.quiet _ []; exact rfl; decide +kernel; exact rfl; intro R; refine ⟨_, (by repeat constructor), ?_⟩;
         (first | (apply EvW.fieldAddr; exact rfl; exact FldC.eq)))
    (apply Par.quiet _ []; exact rfl; decide +kernel; exact rfl; intro R; refine ⟨_, (by repeat constructor), ?_⟩;
         (first | (apply EvW.ldSeen; exact rfl; exact ScalC.eq; assumption; (first | exact rfl | assumption))))
    (apply Par.quiet _ []; exact rfl; decide +kernel; exact rfl; intro R; refine ⟨_, (by repeat constructor), ?_⟩;
         (first | (apply EvW.assign; exact rfl)))
    (apply Par.quiet _ []; exact rfl; decide +kernel; exact rfl; intro R; refine ⟨_, (by repeat constructor), ?_⟩;
         (first | (apply EvW.assign; exact rfl)))
    exact Par.nil
  · repeat (first | exact AllN.nil | (apply AllN.cons; (intro c x; (repeat (first | exact IndA.nil | (apply IndA.skip; decide +kernel) | apply IndA.same))))) 
  · repeat (first | exact AllN.nil | (apply AllN.cons; (intro c x; (repeat (first | exact IndT.nil | (apply IndT.skip; decide +kernel) | apply IndT.same))))) 
  · exact fun _ => rfl
  intro c
  refine ⟨_, (by repeat constructor), ?_⟩
  apply WE.writ
  · (focus ((repeat (first | exact Writ.nil | apply Writ.some | apply Writ.none)); done))
  repeat first
    | refine WE.next ?_ | refine WC.ret ?_
  refine WE.retN (l := [2, 3]) rfl rfl rfl ?_
  exact ⟨rfl, rfl⟩
theorem place1 : Place 33 selA := ⟨fun l w => Try.call33 l w, fun v w S hS h => place1_spec v w S hS h⟩
theorem place2 : Place 34 selB := ⟨fun l w => Try.call34 l w, fun v w S hS h => place2_spec v w S hS h⟩
theorem place3 : Place 35 selY := ⟨fun l w => Try.call35 l w, fun v w S hS h => place3_spec v w S hS h⟩
theorem place4 : Place 36 selD := ⟨fun l w => Try.call36 l w, fun v w S hS h => place4_spec v w S hS h⟩
theorem ocOf_in {c : Cfg} {s : Int} (h : 0 ≤ s) (h2 : s < c.secs.length) : ocOf c s = (c.secs.getD s.toNat default).oc := by unfold ocOf; rw [if_pos ⟨h, h2⟩]
theorem ocOf_out {c : Cfg} {s : Int} (h : ¬ (0 ≤ s ∧ s < c.secs.length)) : ocOf c s = -1 := by unfold ocOf; rw [if_neg h]
theorem lookI_spec (x : Img) (now sec el worst : Int) (f : FuncId) (sel : Sel) (l : Int × Int × Bool) (w : World) (S : BSet) (hS : (sepL []).sat S w) (hx : x.Seen w S) (hw : now ≤ 9223372036854775807) (hP : Place f sel) (hG : x.Good now sel) (hl : x.lookV sel now sec el worst = l) :
    Tri Try.prog 32 #[ptr x.b 0, i64 now, i64 sec, i64 el, i64 worst, .func (.func f) #[] #[]] w S fun u A => u = .agg #[i64 (l).1, i64 (l).2.1, .bool (l).2.2] ∧ A = [] := by
  refine Tri.enter (l := [ptr x.b 0, i64 now, i64 sec, i64 el, i64 worst, .func (.func f) #[] #[]]) Try.func32 rfl Try.ntmps32 rfl [(0, ptr x.b 0), (1, i64 now), (2, i64 sec), (3, i64 el), (4, i64 worst), (5, .func (.func f) #[] #[])] (subA rfl) hS ?_
  subst hl
  unfold Img.lookV
  have hB := hx.blk
  have hV := hx.vv
  have hsec := hx.c.secs
  have hnS := hx.c.nS
  repeat first
    | refine WC.seq ?_ | refine WC.region ?_
  try refine WL.wanted rfl rfl rfl ?_
  (apply WL.alloc; exact rfl; exact ZvC.eq; exact rfl; intro r)
  repeat first
    | (apply WL.q; exact rfl; exact rfl; exact rfl; (first | (apply EvW.move; exact rfl) | (apply EvW.build; exact PlC.eq; exact ZvC.eq; exact rfl; exact rfl; (focus ((repeat (first | exact Fills.nil | (apply Fills.cons; exact rfl; (first | assumption | exact rfl); exact rfl) | exact SetMany.nil | apply SetMany.cons | apply SetMany.succ)); done)))))
    | refine WC.seq ?_ | refine WC.region ?_ | refine WL.nil ?_ | refine WE.next ?_
  try refine WL.wanted rfl rfl rfl ?_
  (apply WL.alloc; exact rfl; exact ZvC.eq; exact rfl; intro q)
  by_cases h0 : 0 ≤ sec
  rotate_left
  · rw [ocOf_out (fun h => h0 h.1), aliveP_out (by decide), lookP_dead]
    repeat first
      | (apply WL.q; exact rfl; exact rfl; exact rfl; (first | (apply EvW.move; exact rfl) | (apply EvW.cmpT; exact rfl; exact rfl; exact rfl; omega) | (apply EvW.pickT; exact rfl; exact rfl) | (apply EvW.loadAgg; exact rfl; exact AggC.eq; exact SzC.eq; (focus ((repeat constructor); done)); (focus ((repeat (first | exact SubL.nil | apply SubL.cons | apply SubL.succ)); done)))))
      | refine WC.seq ?_ | refine WC.region ?_ | refine WL.nil ?_ | refine WE.next ?_ | refine WC.condT rfl ?_ | refine WC.ret ?_ | refine WE.passRet ?_ | refine WL.unwanted rfl rfl rfl rfl ?_ | (apply WL.store; exact rfl; exact rfl; (first | assumption | exact rfl); exact SzC.eq; (first | assumption | exact rfl); (focus ((repeat constructor); done)))
    (apply WE.retC (A' := []); exact rfl; exact rfl; (focus ((repeat constructor); done)); exact AggC.eq; exact SzC.eq; exact fun _ h => h.keep (by repeat constructor))
    exact ⟨rfl, rfl⟩
  by_cases h1 : sec < x.c.secs.length
  rotate_left
  · rw [ocOf_out (fun h => h1 h.2), aliveP_out (by decide), lookP_dead]
    repeat first
      | (apply WL.q; exact rfl; exact rfl; exact rfl; (first | (apply EvW.move; exact rfl) | (apply EvW.nilPtr; exact rfl) | (apply EvW.fieldAddr0; exact rfl; exact FldC.eq) | (apply EvW.ldSeen; exact rfl; exact ScalC.eq; assumption; (first | exact rfl | assumption)) | (apply EvW.cmpT; exact rfl; exact rfl; exact rfl; omega) | (apply EvW.cmpF; exact rfl; exact rfl; exact rfl; omega) | (apply EvW.pickT; exact rfl; exact rfl) | (apply EvW.pickF; exact rfl; exact rfl) | (apply EvW.loadAgg; exact rfl; exact AggC.eq; exact SzC.eq; (focus ((repeat constructor); done)); (focus ((repeat (first | exact SubL.nil | apply SubL.cons | apply SubL.succ)); done))) | (apply EvW.lenRow; exact rfl; exact UndC.eq; assumption)))
      | refine WC.seq ?_ | refine WC.region ?_ | refine WL.nil ?_ | refine WE.next ?_ | refine WC.condT rfl ?_ | refine WC.ret ?_ | refine WE.passRet ?_ | refine WL.wanted rfl rfl rfl ?_ | refine WL.unwanted rfl rfl rfl rfl ?_ | (apply WL.store; exact rfl; exact rfl; (first | assumption | exact rfl); exact SzC.eq; (first | assumption | exact rfl); (focus ((repeat constructor); done)))
    (apply WE.retC (A' := []); exact rfl; exact rfl; (focus ((repeat constructor); done)); exact AggC.eq; exact SzC.eq; exact fun _ h => h.keep (by repeat constructor))
    exact ⟨rfl, rfl⟩
  rw [ocOf_in h0 h1]
  obtain ⟨oc, hoc⟩ : ∃ oc, (x.c.secs.getD sec.toNat default).oc = oc := ⟨_, rfl⟩
  obtain ⟨g, hg⟩ : ∃ g, aliveP x.st now x.c.age oc = g := ⟨_, rfl⟩
  repeat first
    | (apply WL.q; exact rfl; exact rfl; exact rfl; (first | (apply EvW.move; exact rfl) | (apply EvW.nilPtr; exact rfl) | (apply EvW.fieldAddr0; exact rfl; exact FldC.eq) | (apply EvW.ldSeen; exact rfl; exact ScalC.eq; assumption; (first | exact rfl | assumption)) | (apply EvW.ldFld; exact rfl; exact ScalC.eq; assumption; exact fun _ => rfl; omega; exact rfl; exact inferInstance) | (apply EvW.cmpF; exact rfl; exact rfl; exact rfl; omega) | (apply EvW.pickF; exact rfl; exact rfl) | (apply EvW.lenRow; exact rfl; exact UndC.eq; assumption) | (apply EvW.idxRow; exact rfl; exact rfl; exact UndC.eq; exact SzC.eq; assumption; omega; omega) | (apply EvW.fldRow; exact rfl; exact FldC.eq; assumption; omega)))
    | refine WC.seq ?_ | refine WC.region ?_ | refine WL.nil ?_ | refine WE.next ?_ | refine WL.wanted rfl rfl rfl ?_ | (apply WL.store; exact rfl; exact rfl; (first | assumption | exact rfl); exact SzC.eq; (first | assumption | exact rfl); (focus ((repeat constructor); done)))
  rw [hoc]
  try refine WL.wanted rfl rfl rfl ?_
  apply WL.callA ([])
  · exact rfl
  · exact rfl
  · exact fun w => Try.call15 _ w
  · (focus ((repeat constructor); done))
  · exact fun w1 S1 hS1 hs1 ho1 => aliveI_spec x now oc g w1 S1 hS1 (hx.down hs1) hw hg
  rintro _ _ ⟨rfl, rfl⟩
  first | refine WL.app4 ?_ | refine WL.app3 ?_ | refine WL.app2 ?_ | refine WL.app1 ?_ | refine WL.app0 ?_ | skip
  rw [hg]
  cases g with
  | false =>
    rw [lookP_dead]
    repeat first
      | (apply WL.q; exact rfl; exact rfl; exact rfl; (first | (apply EvW.pickF; exact rfl; exact rfl) | (apply EvW.notF; exact rfl) | (apply EvW.loadAgg; exact rfl; exact AggC.eq; exact SzC.eq; (focus ((repeat constructor); done)); (focus ((repeat (first | exact SubL.nil | apply SubL.cons | apply SubL.succ)); done)))))
      | refine WC.seq ?_ | refine WC.region ?_ | refine WL.nil ?_ | refine WE.next ?_ | refine WC.condT rfl ?_ | refine WC.ret ?_ | refine WE.passRet ?_ | refine WL.wanted rfl rfl rfl ?_ | (apply WL.store; exact rfl; exact rfl; (first | assumption | exact rfl); exact SzC.eq; (first | assumption | exact rfl); (focus ((repeat constructor); done)))
    (apply WE.retC (A' := []); exact rfl; exact rfl; (focus ((repeat constructor); done)); exact AggC.eq; exact SzC.eq; exact fun _ h => h.keep (by repeat constructor))
    exact ⟨rfl, rfl⟩
  | true =>
    have hin : 0 ≤ oc ∧ oc < 4 := by
      by_cases h : 0 ≤ oc ∧ oc < 4
      · exact h
      · rw [aliveP_out h] at hg; cases hg
    have hk := hx.v oc.toNat (by omega)
    have hat := Img.at (x := x) (k := oc.toNat) (by rw [hx.len]; omega)
    have hlen := hG.len oc hg
    obtain ⟨hr1, hr2⟩ := hG.row hk.sh
    obtain ⟨hr3, hr4⟩ := hG.row hk.sd
    have hvb := hk.blk
    have hoci : getL (secC (x.c.secs.getD sec.toNat default)) 1 = some (i64 oc) := by rw [← hoc]; rfl
    repeat first
      | (apply WL.q; exact rfl; exact rfl; exact rfl; (first | (apply EvW.pickF; exact rfl; exact rfl) | (apply EvW.notT; exact rfl)))
      | refine WC.seq ?_ | refine WL.nil ?_ | refine WE.next ?_ | refine WC.skip ?_ | refine WC.condF rfl ?_ | refine WL.wanted rfl rfl rfl ?_
    repeat refine WC.seq ?_
    refine WC.keep (xs := [.blk q #[i64 worst, i64 (-1), .bool false] 44, .blk r #[i64 0, i64 0, .bool false] 44]) (by repeat constructor) ?_
    apply WC.par _ (fun c : Ch => [.blk q #[i64 worst, i64 (-1), .bool false] 44, .blk r #[i64 0, i64 0, .bool false] 44]) [none, none] [none, none] [] Try.mixed
    · (focus ((repeat (first | exact Restr.nil | (apply Restr.keep; exact rfl; exact rfl) | (apply Restr.drop; exact rfl))); done))
    · intro c; exact (by repeat constructor)
    · exact rfl
    · decide +kernel
    · decide +kernel
    · intro c
      (apply Par.quiet _ [true, true]; exact rfl; decide +kernel; exact rfl; intro R; refine ⟨_, (by repeat constructor), ?_⟩;
           (first | (apply EvW.move; exact rfl)))
      (apply Par.quiet _ [true, true]; exact rfl; decide +kernel; exact rfl; intro R; refine ⟨_, (by repeat constructor), ?_⟩;
           (first | (apply EvW.nilPtr; exact rfl)))
      (apply Par.quiet _ [true, true]; exact rfl; decide +kernel; exact rfl; intro R; refine ⟨_, (by repeat constructor), ?_⟩;
           (first | (apply EvW.fieldAddr0; exact rfl; exact FldC.eq)))
      (apply Par.quiet _ [true, true]; exact rfl; decide +kernel; exact rfl; intro R; refine ⟨_, (by repeat constructor), ?_⟩;
           (first | (apply EvW.ldSeen; exact rfl; exact ScalC.eq; assumption; (first | exact rfl | assumption))))
      (apply Par.quiet _ [true, true]; exact rfl; decide +kernel; exact rfl; intro R; refine ⟨_, (by repeat constructor), ?_⟩;
           (first | (apply EvW.move; exact rfl)))
      (apply Par.quiet _ [true, true]; exact rfl; decide +kernel; exact rfl; intro R; refine ⟨_, (by repeat constructor), ?_⟩;
           (first | (apply EvW.nilPtr; exact rfl)))
      (apply Par.quiet _ [true, true]; exact rfl; decide +kernel; exact rfl; intro R; refine ⟨_, (by repeat constructor), ?_⟩;
           (first | (apply EvW.fieldAddr0; exact rfl; exact FldC.eq)))
      (apply Par.quiet _ [true, true]; exact rfl; decide +kernel; exact rfl; intro R; refine ⟨_, (by repeat constructor), ?_⟩;
           (first | (apply EvW.fieldAddr0; exact rfl; exact FldC.eq)))
      (apply Par.quiet _ [true, true]; exact rfl; decide +kernel; exact rfl; intro R; refine ⟨_, (by repeat constructor), ?_⟩;
           (first | (apply EvW.ldSeen; exact rfl; exact ScalC.eq; assumption; (first | exact rfl | assumption))))
      (apply Par.quiet _ [true, true]; exact rfl; decide +kernel; exact rfl; intro R; refine ⟨_, (by repeat constructor), ?_⟩;
           (first | (apply EvW.move; exact rfl)))
      (apply Par.quiet _ [true, true]; exact rfl; decide +kernel; exact rfl; intro R; refine ⟨_, (by repeat constructor), ?_⟩;
           (first | (apply EvW.idxRow; exact rfl; exact rfl; exact UndC.eq; exact SzC.eq; assumption; omega; omega)))
      (apply Par.quiet _ [true, true]; exact rfl; decide +kernel; exact rfl; intro R; refine ⟨_, (by repeat constructor), ?_⟩;
           (first | (apply EvW.fldRow; exact rfl; exact FldC.eq; assumption; omega)))
      apply Par.quiet _ [true, true]
      · exact rfl
      · decide +kernel
      · exact rfl
      · intro R
        refine ⟨_, (by repeat constructor), ?_⟩
        (apply EvW.ldFld (xs := x.c.secs) (f := secC) (i := sec.toNat) (off := 1) (q := i64 oc); exact rfl; exact ScalC.eq; exact hsec; exact fun _ => rfl; omega; exact hoci)
      (apply Par.quiet _ [true, true]; exact rfl; decide +kernel; exact rfl; intro R; refine ⟨_, (by repeat constructor), ?_⟩;
           (first | (apply EvW.idxRow; exact rfl; exact rfl; exact UndC.eq; exact SzC.eq; assumption; omega; omega)))
      apply Par.quiet _ [true, true]
      · exact rfl
      · decide +kernel
      · exact rfl
      · intro R
        refine ⟨_, (by repeat constructor), ?_⟩
        (apply EvW.ldRow (i := oc.toNat) (off := 0) (q := ptr ((x.vs.getD oc.toNat default)).b 0); exact rfl; exact ScalC.eq; assumption; exact hat)
      (apply Par.quiet _ [true, true]; exact rfl; decide +kernel; exact rfl; intro R; refine ⟨_, (by repeat constructor), ?_⟩;
           (first | (apply EvW.assign; exact rfl)))
      exact Par.nil
    · repeat (first | exact AllN.nil | (apply AllN.cons; (intro c x; (repeat (first | exact IndA.nil | (apply IndA.skip; decide +kernel) | apply IndA.same))))) 
    · repeat (first | exact AllN.nil | (apply AllN.cons; (intro c x; (repeat (first | exact IndT.nil | (apply IndT.skip; decide +kernel) | apply IndT.same))))) 
    · exact fun _ => rfl
    intro c
    refine ⟨_, (by repeat constructor), ?_⟩
    apply WE.writ
    · (focus ((repeat (first | exact Writ.nil | apply Writ.some | apply Writ.none)); done))
    repeat first
      | (apply WL.q; exact rfl; exact rfl; exact rfl; (first | (apply EvW.move; exact rfl)))
      | refine WC.seq ?_ | refine WC.region ?_ | refine WE.next ?_
    try refine WL.wanted rfl rfl rfl ?_
    apply WL.callV ([])
    · exact rfl
    · exact rfl
    · exact rfl
    · exact fun w => hP.call _ w
    · (focus ((repeat constructor); done))
    · exact fun w1 S1 hS1 hs1 ho1 => hP.ans ((x.vs.getD oc.toNat default)) w1 S1 hS1 (hs1 _ hvb)
    rintro _ _ ⟨rfl, rfl⟩
    refine WL.app0 ?_
    generalize hq1 : sel ((x.vs.getD oc.toNat default)).sh = q1 at hr1 hr2 hlen
    generalize hq2 : sel ((x.vs.getD oc.toNat default)).sd = q2 at hr3 hr4 hlen
    obtain ⟨n1, l1⟩ := q1
    obtain ⟨n2, l2⟩ := q2
    dsimp only at hr1 hr2 hr3 hr4 hlen ⊢
    have hlo := atF_lo el l1
    repeat first
      | (apply WL.q; exact rfl; exact rfl; exact rfl; (first | (apply EvW.move; exact rfl) | (apply EvW.assign; exact rfl) | (apply EvW.extract; exact rfl; exact rfl)))
      | refine WC.seq ?_ | refine WC.region ?_ | refine WL.nil ?_ | refine WE.next ?_
    try refine WL.wanted rfl rfl rfl ?_
    apply WL.callA ([])
    · exact rfl
    · exact rfl
    · exact fun w => Try.call61 _ w
    · (focus ((repeat constructor); done))
    · exact fun w1 S1 hS1 hs1 ho1 => indexI_spec l1 n1 el w1 S1 hS1 (hs1 _ hr1) hr2
    rintro _ _ ⟨rfl, rfl⟩
    first | refine WL.app4 ?_ | refine WL.app3 ?_ | refine WL.app2 ?_ | refine WL.app1 ?_ | refine WL.app0 ?_ | skip
    by_cases hi : atF l1 el < 0
    · rw [lookP_none hi]
      repeat first
        | (apply WL.q; exact rfl; exact rfl; exact rfl; (first | (apply EvW.move; exact rfl) | (apply EvW.assign; exact rfl) | (apply EvW.cmpT; exact rfl; exact rfl; exact rfl; omega) | (apply EvW.loadAgg; exact rfl; exact AggC.eq; exact SzC.eq; (focus ((repeat constructor); done)); (focus ((repeat (first | exact SubL.nil | apply SubL.cons | apply SubL.succ)); done)))))
        | refine WC.seq ?_ | refine WC.region ?_ | refine WL.nil ?_ | refine WE.next ?_ | refine WC.condT rfl ?_ | refine WC.ret ?_ | refine WE.passRet ?_ | (apply WL.store; exact rfl; exact rfl; (first | assumption | exact rfl); exact SzC.eq; (first | assumption | exact rfl); (focus ((repeat constructor); done)))
      (apply WE.retC (A' := []); exact rfl; exact rfl; (focus ((repeat constructor); done)); exact AggC.eq; exact SzC.eq; exact fun _ h => h.keep (by repeat constructor))
      exact ⟨rfl, rfl⟩
    · rw [lookP_some (by omega) (by omega)]
      repeat first
        | (apply WL.q; exact rfl; exact rfl; exact rfl; (first | (apply EvW.move; exact rfl) | (apply EvW.assign; exact rfl) | (apply EvW.cmpF; exact rfl; exact rfl; exact rfl; omega)))
        | refine WC.seq ?_ | refine WC.region ?_ | refine WL.nil ?_ | refine WE.next ?_ | refine WC.skip ?_ | refine WC.condF rfl ?_
      repeat refine WC.seq ?_
      refine WC.keep (xs := [.blk q #[i64 worst, i64 (-1), .bool false] 44, .blk r #[i64 0, i64 0, .bool false] 44]) (by repeat constructor) ?_
      apply WC.par _ (fun c : Ch => [.blk q #[i64 worst, i64 (-1), .bool false] 44, .blk r #[i64 0, i64 0, .bool false] 44, .blk r #[i64 (l2.getD (atF l1 el).toNat 0), i64 ((x.vs.getD oc.toNat default)).stamp, .bool true] 44]) [none, none, some 9] [none, some 9, none] [] Try.mixed
      · (focus ((repeat (first | exact Restr.nil | (apply Restr.keep; exact rfl; exact rfl) | (apply Restr.drop; exact rfl))); done))
      · intro c; exact (by repeat constructor)
      · exact rfl
      · decide +kernel
      · decide +kernel
      · intro c
        (apply Par.quiet _ [true, true, false]; exact rfl; decide +kernel; exact rfl; intro R; refine ⟨_, (by repeat constructor), ?_⟩;
             (first | (apply EvW.move; exact rfl)))
        (apply Par.quiet _ [true, true, false]; exact rfl; decide +kernel; exact rfl; intro R; refine ⟨_, (by repeat constructor), ?_⟩;
             (first | (apply EvW.move; exact rfl)))
        (apply Par.quiet _ [true, true, false]; exact rfl; decide +kernel; exact rfl; intro R; refine ⟨_, (by repeat constructor), ?_⟩;
             (first | (apply EvW.idxRow; exact rfl; exact rfl; exact UndC.eq; exact SzC.eq; assumption; omega; omega)))
        (apply Par.quiet _ [true, true, false]; exact rfl; decide +kernel; exact rfl; intro R; refine ⟨_, (by repeat constructor), ?_⟩;
             (first | (apply EvW.ldInt; exact rfl; exact ScalC.eq; assumption; omega)))
        (apply Par.quiet _ [true, true, false]; exact rfl; decide +kernel; exact rfl; intro R; refine ⟨_, (by repeat constructor), ?_⟩;
             (first | (apply EvW.move; exact rfl)))
        (apply Par.quiet _ [true, true, false]; exact rfl; decide +kernel; exact rfl; intro R; refine ⟨_, (by repeat constructor), ?_⟩;
             (first | (apply EvW.nilPtr; exact rfl)))
        (apply Par.quiet _ [true, true, false]; exact rfl; decide +kernel; exact rfl; intro R; refine ⟨_, (by repeat constructor), ?_⟩;
             (first | (apply EvW.fieldAddr0; exact rfl; exact FldC.eq)))
        (apply Par.quiet _ [true, true, false]; exact rfl; decide +kernel; exact rfl; intro R; refine ⟨_, (by repeat constructor), ?_⟩;
             (first | (apply EvW.ldSeen; exact rfl; exact ScalC.eq; assumption; (first | exact rfl | assumption))))
        (apply Par.quiet _ [true, true, false]; exact rfl; decide +kernel; exact rfl; intro R; refine ⟨_, (by repeat constructor), ?_⟩;
             (first | (apply EvW.build; exact PlC.eq; exact ZvC.eq; exact rfl; exact rfl; (focus ((repeat (first | exact Fills.nil | (apply Fills.cons; exact rfl; (first | assumption | exact rfl); exact rfl) | exact SetMany.nil | apply SetMany.cons | apply SetMany.succ)); done)))))
        (apply Par.eff _ [false, true, false] [false, false, true] [true, false, false]; exact rfl; exact rfl; decide +kernel; intro R; refine ⟨_, _, _, (by repeat constructor), (by repeat constructor), (by repeat constructor), ?_⟩; (apply EffW.store; exact rfl; exact rfl; (first | assumption | exact rfl); exact SzC.eq; (first | assumption | exact rfl); (focus ((repeat constructor); done))))
        exact Par.nil
      · repeat (first | exact AllN.nil | (apply AllN.cons; (intro c x; (repeat (first | exact IndA.nil | (apply IndA.skip; decide +kernel) | apply IndA.same))))) 
      · repeat (first | exact AllN.nil | (apply AllN.cons; (intro c x; (repeat (first | exact IndT.nil | (apply IndT.skip; decide +kernel) | apply IndT.same))))) 
      · exact fun _ => rfl
      intro c
      refine ⟨_, (by repeat constructor), ?_⟩
      apply WE.writ
      · (focus ((repeat (first | exact Writ.nil | apply Writ.some | apply Writ.none)); done))
      repeat first
        | refine WE.next ?_ | refine WC.ret ?_
      (apply WE.retC (A' := []); exact rfl; exact rfl; (focus ((repeat constructor); done)); exact AggC.eq; exact SzC.eq; exact fun _ h => h.keep (by repeat constructor))
      exact ⟨rfl, rfl⟩
end Go.Proofs.Ytamofjpadnnppaa
namespace Go.Proofs.Ytamofjpadnnppaa
open Go.RowKit Go.BK
theorem range_map {α : Type} (f : Nat → α) (i : Nat) : (List.range (i + 1)).map f = (List.range i).map f ++ [f i] := by rw [List.range_succ, List.map_append]; rfl
abbrev Looks := List (Int × Int × Bool)
theorem looks_snoc (l : Looks) (x : Int × Int × Bool) : l.flatMap lkC ++ [i64 x.1, i64 x.2.1, .bool x.2.2] = (l ++ [x]).flatMap lkC := by rw [List.flatMap_append]; simp [lkC]
theorem looks_len (l : Looks) (x : Int × Int × Bool) : l.length + 1 = (l ++ [x]).length := by simp
def Img.occ (x : Img) (now : Int) (i : Nat) : Looks := (List.range i).map fun (k : Nat) => x.lookV selA now k k 1
def Img.pos (x : Img) (now : Int) (i : Nat) : Looks := (List.range i).map fun (k : Nat) => x.lookV selB now k k 0
def Img.shut (x : Img) (now : Int) (i : Nat) : Looks := (List.range i).map fun (k : Nat) => x.lookV selY now (x.c.crs.getD k 0) k 0
def Img.lamp (x : Img) (now : Int) (i : Nat) : Looks := (List.range i).map fun (k : Nat) => x.lookV selD now (x.c.sigs.getD k default).s k 0
theorem Img.occ_len (x : Img) (now : Int) (i : Nat) : (x.occ now i).length = i := by simp [Img.occ]
theorem Img.pos_len (x : Img) (now : Int) (i : Nat) : (x.pos now i).length = i := by simp [Img.pos]
theorem Img.shut_len (x : Img) (now : Int) (i : Nat) : (x.shut now i).length = i := by simp [Img.shut]
theorem Img.lamp_len (x : Img) (now : Int) (i : Nat) : (x.lamp now i).length = i := by simp [Img.lamp]
structure Cfg.Small (c : Cfg) : Prop where
  s : c.secs.length ≤ 1048576
  g : c.sigs.length ≤ 1048576
  r : c.crs.length ≤ 1048576
structure Img.Sound (x : Img) (now : Int) : Prop where
  a : ∀ oc, aliveP x.st now x.c.age oc = true → (x.vs.getD oc.toNat default).sd.la.length = (x.vs.getD oc.toNat default).sh.la.length
  b : ∀ oc, aliveP x.st now x.c.age oc = true → (x.vs.getD oc.toNat default).sd.lb.length = (x.vs.getD oc.toNat default).sh.lb.length
  y : ∀ oc, aliveP x.st now x.c.age oc = true → (x.vs.getD oc.toNat default).sd.ly.length = (x.vs.getD oc.toNat default).sh.ly.length
  d : ∀ oc, aliveP x.st now x.c.age oc = true → (x.vs.getD oc.toNat default).sd.ld.length = (x.vs.getD oc.toNat default).sh.ld.length
theorem Img.Sound.ga {x : Img} {now : Int} (h : x.Sound now) : x.Good now selA := ⟨fun h => ⟨h.a, h.na⟩, h.a⟩
theorem Img.Sound.gb {x : Img} {now : Int} (h : x.Sound now) : x.Good now selB := ⟨fun h => ⟨h.b, h.nb⟩, h.b⟩
theorem Img.Sound.gy {x : Img} {now : Int} (h : x.Sound now) : x.Good now selY := ⟨fun h => ⟨h.y, h.ny⟩, h.y⟩
theorem Img.Sound.gd {x : Img} {now : Int} (h : x.Sound now) : x.Good now selD := ⟨fun h => ⟨h.d, h.nd⟩, h.d⟩
set_option maxHeartbeats 1000000 in
theorem view_spec (x : Img) (now : Int) (w : World) (S : BSet) (hS : (sepL []).sat S w) (hx : x.Seen w S) (hw : now ≤ 9223372036854775807) (hs : x.c.Small) (hG : x.Sound now) :
    Tri Try.prog 10 #[ptr x.b 0, i64 now] w S fun u A => ∃ a b d e : Value, u = .agg #[a, b, d, e] ∧ A = [.own 44 3 (a) (x.occ now x.c.secs.length).length ((x.occ now x.c.secs.length).flatMap lkC), .own 44 3 (b) (x.pos now x.c.secs.length).length ((x.pos now x.c.secs.length).flatMap lkC), .own 44 3 (d) (x.shut now x.c.crs.length).length ((x.shut now x.c.crs.length).flatMap lkC), .own 44 3 (e) (x.lamp now x.c.sigs.length).length ((x.lamp now x.c.sigs.length).flatMap lkC)] := by
  refine Tri.enter (l := [ptr x.b 0, i64 now]) Try.func10 rfl Try.ntmps10 rfl [(0, ptr x.b 0), (1, i64 now)] (subA rfl) hS ?_
  have hB := hx.blk
  have hsec := hx.c.secs
  have hsig := hx.c.sigs
  have hcrs := hx.c.crs
  obtain ⟨hnS, hnG, hnC⟩ := hs
  repeat first
    | refine WC.seq ?_ | refine WC.region ?_
  try refine WL.wanted rfl rfl rfl ?_
  (apply WL.alloc; exact rfl; exact ZvC.eq; exact rfl; intro r)
  repeat first
    | refine WC.seq ?_ | refine WC.region ?_ | refine WL.nil ?_ | refine WE.next ?_
  try refine WL.wanted rfl rfl rfl ?_
  (apply WL.alloc; exact rfl; exact ZvC.eq; exact rfl; intro q)
  repeat first
    | (apply WL.q; exact rfl; exact rfl; exact rfl; (first | (apply EvW.move; exact rfl) | (apply EvW.nilPtr; exact rfl) | (apply EvW.fieldAddr0; exact rfl; exact FldC.eq) | (apply EvW.ldSeen; exact rfl; exact ScalC.eq; assumption; (first | exact rfl | assumption)) | (apply EvW.lenRow; exact rfl; exact UndC.eq; assumption)))
    | refine WC.seq ?_ | refine WC.region ?_ | refine WL.nil ?_ | refine WE.next ?_ | refine WC.block ?_
  refine WC.ownNil 44 3 ?_
  refine WC.ownNil 44 3 ?_
  refine WC.ownNil 44 3 ?_
  refine WC.ownNil 44 3 ?_
  refine WC.loopK (σ := Nat × Value × Value) [0, 1, 4, 5, 16] (fun s => [(17, i64 s.1)]) (fun s => [.own 44 3 (s.2.1) (x.occ now s.1).length ((x.occ now s.1).flatMap lkC), .own 44 3 (s.2.2) (x.pos now s.1).length ((x.pos now s.1).flatMap lkC), .own 44 3 (.slice none 0 0) 0 [], .own 44 3 (.slice none 0 0) 0 [], .blk q #[s.2.1, s.2.2, (.slice none 0 0), (.slice none 0 0)] 41, .blk r #[(.slice none 0 0), (.slice none 0 0), (.slice none 0 0), (.slice none 0 0)] 41]) (fun s => s.1 ≤ x.c.secs.length) (fun s => x.c.secs.length - s.1) (0, .slice none 0 0, .slice none 0 0) (by (focus ((repeat (first | exact Pick.nil | (apply Pick.cons; exact rfl))); done))) (by (focus ((repeat (first | exact trivial | (refine ⟨rfl, ?_⟩))); done))) (fun _ h => h.keep (by repeat constructor)) (Nat.zero_le _) (fun s hs => ?_)
  obtain ⟨i, a, b⟩ := s
  simp only [List.cons_append, List.nil_append] at hs ⊢
  by_cases hlt : (i : Int) < x.c.secs.length
  · have hl1 := x.occ_len now i
    have hl2 := x.pos_len now i
    have hl_occ := x.occ_len now i
    have e_occ : x.occ now (i + 1) = x.occ now i ++ [x.lookV selA now i i 1] := range_map _ i
    obtain ⟨L_occ, hL_occ⟩ : ∃ L, x.lookV selA now i i 1 = L := ⟨_, rfl⟩
    rw [hL_occ] at e_occ
    have hl_pos := x.pos_len now i
    have e_pos : x.pos now (i + 1) = x.pos now i ++ [x.lookV selB now i i 0] := range_map _ i
    obtain ⟨L_pos, hL_pos⟩ : ∃ L, x.lookV selB now i i 0 = L := ⟨_, rfl⟩
    rw [hL_pos] at e_pos
    repeat first
      | (apply WL.q; exact rfl; exact rfl; exact rfl; (first | (apply EvW.move; exact rfl) | (apply EvW.assign; exact rfl) | (apply EvW.cmpT; exact rfl; exact rfl; exact rfl; omega)))
      | refine WC.seq ?_ | refine WC.region ?_ | refine WL.nil ?_ | refine WE.next ?_ | refine WC.block ?_ | refine WC.skip ?_ | refine WC.condT rfl ?_
    repeat refine WC.seq ?_
    refine WC.keep (xs := [.blk q #[a, b, (.slice none 0 0), (.slice none 0 0)] 41, .own 44 3 (a) (x.occ now i).length ((x.occ now i).flatMap lkC), .own 44 3 (b) (x.pos now i).length ((x.pos now i).flatMap lkC), .own 44 3 (.slice none 0 0) 0 [], .own 44 3 (.slice none 0 0) 0 [], .blk r #[(.slice none 0 0), (.slice none 0 0), (.slice none 0 0), (.slice none 0 0)] 41]) (by repeat constructor) ?_
    apply WC.par _ (fun c : Ch => [.blk q #[a, b, (.slice none 0 0), (.slice none 0 0)] 41, .blk q #[(c 8).2, b, (.slice none 0 0), (.slice none 0 0)] 41, .own 44 3 (a) (x.occ now i).length ((x.occ now i).flatMap lkC), .blk (c 7).1 #[i64 L_occ.1, i64 L_occ.2.1, .bool L_occ.2.2] 44, .own 44 3 ((c 8).2) ((x.occ now i).length + 1) ((x.occ now i).flatMap lkC ++ [i64 L_occ.1, i64 L_occ.2.1, .bool L_occ.2.2]), .own 44 3 (b) (x.pos now i).length ((x.pos now i).flatMap lkC), .own 44 3 (.slice none 0 0) 0 [], .own 44 3 (.slice none 0 0) 0 [], .blk r #[(.slice none 0 0), (.slice none 0 0), (.slice none 0 0), (.slice none 0 0)] 41]) [none, some 10, none, some 7, some 8, none, none, none, none] [some 10, none, some 8, some 8, none, none, none, none, none] [(7, fun x => .slice (some ⟨x.1, 0, none⟩) 1 1), (8, fun x => x.2)] Try.mixed
    · (focus ((repeat (first | exact Restr.nil | (apply Restr.keep; exact rfl; exact rfl) | (apply Restr.drop; exact rfl))); done))
    · intro c; exact (by repeat constructor)
    · exact rfl
    · decide +kernel
    · decide +kernel
    · intro c
      (apply Par.quiet _ [true, false, true, false, false, true, true, true, true]; exact rfl; decide +kernel; exact rfl; intro R; refine ⟨_, (by repeat constructor), ?_⟩;
           (first | (apply EvW.fieldAddr0; exact rfl; exact FldC.eq)))
      (apply Par.quiet _ [true, false, true, false, false, true, true, true, true]; exact rfl; decide +kernel; exact rfl; intro R; refine ⟨_, (by repeat constructor), ?_⟩;
           (first | (apply EvW.load; exact rfl; exact ScalC.eq; (focus ((repeat constructor); done)); exact rfl)))
      (apply Par.quiet _ [true, false, true, false, false, true, true, true, true]; exact rfl; decide +kernel; exact rfl; intro R; refine ⟨_, (by repeat constructor), ?_⟩;
           (first | (apply EvW.move; exact rfl)))
      (apply Par.quiet _ [true, false, true, false, false, true, true, true, true]; exact rfl; decide +kernel; exact rfl; intro R; refine ⟨_, (by repeat constructor), ?_⟩;
           (first | (apply EvW.move; exact rfl)))
      (apply Par.quiet _ [true, false, true, false, false, true, true, true, true]; exact rfl; decide +kernel; exact rfl; intro R; refine ⟨_, (by repeat constructor), ?_⟩;
           (first | (apply EvW.move; exact rfl)))
      (apply Par.quiet _ [true, false, true, false, false, true, true, true, true]; exact rfl; decide +kernel; exact rfl; intro R; refine ⟨_, (by repeat constructor), ?_⟩;
           (first | (apply EvW.move; exact rfl)))
      apply Par.quiet _ [true, false, true, false, false, true, true, true, true]
      · exact rfl
      · decide +kernel
      · exact rfl
      · intro R
        refine ⟨_, (by repeat constructor), ?_⟩
        apply EvW.callK ([])
        · exact rfl
        · exact fun w => Try.call32 _ w
        · (focus ((repeat constructor); done))
        · exact fun w1 S1 hS1 hs1 ho1 => lookI_spec x now i i 1 _ selA L_occ w1 S1 hS1 (hx.down hs1) hw place1 hG.ga hL_occ
        · exact fun _ _ h => h
      (apply Par.new _ [false, false, false, false, false, false, false, false, false] [false, false, false, true, false, false, false, false, false] [true, false, true, false, false, true, true, true, true]; exact rfl; exact rfl; decide +kernel; intro R; refine ⟨_, _, _, (by repeat constructor), (by repeat constructor), (fun x => (by repeat constructor)), ?_⟩; (apply NewW.buildSlice; exact UndC.eq; exact SzC.eq; exact ZvC.eq; exact rfl; exact rfl; exact rfl; (focus ((repeat (first | exact Flat.nil | (apply Flat.one; (first | exact rfl | assumption)) | (apply Flat.cons; exact rfl; exact rfl))); done)); exact rfl; exact rfl; exact fun _ => rfl))
      apply Par.new _ [false, false, true, true, false, false, false, false, false] [false, false, false, false, true, false, false, false, false] [true, false, false, false, false, true, true, true, true]
      · exact rfl
      · exact rfl
      · decide +kernel
      · intro R
        refine ⟨_, _, _, (by repeat constructor), (by repeat constructor), (fun x => (by repeat constructor)), ?_⟩
        (apply NewW.append; exact rfl; exact rfl; exact UndC.eq; exact SzC.eq; exact ByC.eq; exact ZvC.eq; exact rfl; (first | exact notInt_sl UndC.eq | exact notInt_st UndC.eq); exact rfl; (focus ((repeat constructor); done)))
        · exact adds_blk (by repeat constructor) rfl rfl
        · (rw [hl_occ]; omega)
        · exact fun _ _ h => TakeT.st (by (focus ((repeat (first | exact TakeT.tail | apply TakeT.cons | exact Take.head | apply Take.tail | apply TakeT.drop)); done))) h
      (apply Par.quiet _ [true, false, false, false, true, true, true, true, true]; exact rfl; decide +kernel; exact rfl; intro R; refine ⟨_, (by repeat constructor), ?_⟩;
           (first | (apply EvW.fieldAddr0; exact rfl; exact FldC.eq)))
      apply Par.eff _ [true, false, false, false, false, false, false, false, false] [false, true, false, false, false, false, false, false, false] [false, false, false, false, true, true, true, true, true]
      · exact rfl
      · exact rfl
      · decide +kernel
      · intro R
        refine ⟨_, _, _, (by repeat constructor), (by repeat constructor), (by repeat constructor), ?_⟩
        (apply EffW.storeSl; exact rfl; exact rfl; (focus ((repeat constructor); done)); exact SzC.eq; (focus ((repeat constructor); done)))
      exact Par.nil
    · repeat (first | exact AllN.nil | (apply AllN.cons; (intro c x; (repeat (first | exact IndA.nil | (apply IndA.skip; decide +kernel) | apply IndA.same))))) 
    · repeat (first | exact AllN.nil | (apply AllN.cons; (intro c x; (repeat (first | exact IndT.nil | (apply IndT.skip; decide +kernel) | apply IndT.same))))) 
    · exact fun _ => rfl
    intro c
    refine ⟨_, (by repeat constructor), ?_⟩
    apply WE.writ
    · (focus ((repeat (first | exact Writ.nil | apply Writ.some | apply Writ.none)); done))
    generalize (c 7).1 = b7
    generalize (c 8).2 = a2
    rw [looks_snoc, looks_len, ← e_occ]
    repeat first
      | refine WE.next ?_
    repeat refine WC.seq ?_
    refine WC.keep (xs := [.blk q #[a2, b, (.slice none 0 0), (.slice none 0 0)] 41, .own 44 3 (b) (x.pos now i).length ((x.pos now i).flatMap lkC), .own 44 3 (a2) (x.occ now (i + 1)).length ((x.occ now (i + 1)).flatMap lkC), .own 44 3 (.slice none 0 0) 0 [], .own 44 3 (.slice none 0 0) 0 [], .blk r #[(.slice none 0 0), (.slice none 0 0), (.slice none 0 0), (.slice none 0 0)] 41]) (by repeat constructor) ?_
    apply WC.par _ (fun c : Ch => [.blk q #[a2, b, (.slice none 0 0), (.slice none 0 0)] 41, .blk q #[a2, (c 8).2, (.slice none 0 0), (.slice none 0 0)] 41, .own 44 3 (b) (x.pos now i).length ((x.pos now i).flatMap lkC), .blk (c 7).1 #[i64 L_pos.1, i64 L_pos.2.1, .bool L_pos.2.2] 44, .own 44 3 ((c 8).2) ((x.pos now i).length + 1) ((x.pos now i).flatMap lkC ++ [i64 L_pos.1, i64 L_pos.2.1, .bool L_pos.2.2]), .own 44 3 (a2) (x.occ now (i + 1)).length ((x.occ now (i + 1)).flatMap lkC), .own 44 3 (.slice none 0 0) 0 [], .own 44 3 (.slice none 0 0) 0 [], .blk r #[(.slice none 0 0), (.slice none 0 0), (.slice none 0 0), (.slice none 0 0)] 41]) [none, some 10, none, some 7, some 8, none, none, none, none] [some 10, none, some 8, some 8, none, none, none, none, none] [(7, fun x => .slice (some ⟨x.1, 0, none⟩) 1 1), (8, fun x => x.2)] Try.mixed
    · (focus ((repeat (first | exact Restr.nil | (apply Restr.keep; exact rfl; exact rfl) | (apply Restr.drop; exact rfl))); done))
    · intro c; exact (by repeat constructor)
    · exact rfl
    · decide +kernel
    · decide +kernel
    · intro c
      (apply Par.quiet _ [true, false, true, false, false, true, true, true, true]; exact rfl; decide +kernel; exact rfl; intro R; refine ⟨_, (by repeat constructor), ?_⟩;
           (first | (apply EvW.fieldAddr0; exact rfl; exact FldC.eq)))
      (apply Par.quiet _ [true, false, true, false, false, true, true, true, true]; exact rfl; decide +kernel; exact rfl; intro R; refine ⟨_, (by repeat constructor), ?_⟩;
           (first | (apply EvW.load; exact rfl; exact ScalC.eq; (focus ((repeat constructor); done)); exact rfl)))
      (apply Par.quiet _ [true, false, true, false, false, true, true, true, true]; exact rfl; decide +kernel; exact rfl; intro R; refine ⟨_, (by repeat constructor), ?_⟩;
           (first | (apply EvW.move; exact rfl)))
      (apply Par.quiet _ [true, false, true, false, false, true, true, true, true]; exact rfl; decide +kernel; exact rfl; intro R; refine ⟨_, (by repeat constructor), ?_⟩;
           (first | (apply EvW.move; exact rfl)))
      (apply Par.quiet _ [true, false, true, false, false, true, true, true, true]; exact rfl; decide +kernel; exact rfl; intro R; refine ⟨_, (by repeat constructor), ?_⟩;
           (first | (apply EvW.move; exact rfl)))
      (apply Par.quiet _ [true, false, true, false, false, true, true, true, true]; exact rfl; decide +kernel; exact rfl; intro R; refine ⟨_, (by repeat constructor), ?_⟩;
           (first | (apply EvW.move; exact rfl)))
      apply Par.quiet _ [true, false, true, false, false, true, true, true, true]
      · exact rfl
      · decide +kernel
      · exact rfl
      · intro R
        refine ⟨_, (by repeat constructor), ?_⟩
        apply EvW.callK ([])
        · exact rfl
        · exact fun w => Try.call32 _ w
        · (focus ((repeat constructor); done))
        · exact fun w1 S1 hS1 hs1 ho1 => lookI_spec x now i i 0 _ selB L_pos w1 S1 hS1 (hx.down hs1) hw place2 hG.gb hL_pos
        · exact fun _ _ h => h
      (apply Par.new _ [false, false, false, false, false, false, false, false, false] [false, false, false, true, false, false, false, false, false] [true, false, true, false, false, true, true, true, true]; exact rfl; exact rfl; decide +kernel; intro R; refine ⟨_, _, _, (by repeat constructor), (by repeat constructor), (fun x => (by repeat constructor)), ?_⟩; (apply NewW.buildSlice; exact UndC.eq; exact SzC.eq; exact ZvC.eq; exact rfl; exact rfl; exact rfl; (focus ((repeat (first | exact Flat.nil | (apply Flat.one; (first | exact rfl | assumption)) | (apply Flat.cons; exact rfl; exact rfl))); done)); exact rfl; exact rfl; exact fun _ => rfl))
      apply Par.new _ [false, false, true, true, false, false, false, false, false] [false, false, false, false, true, false, false, false, false] [true, false, false, false, false, true, true, true, true]
      · exact rfl
      · exact rfl
      · decide +kernel
      · intro R
        refine ⟨_, _, _, (by repeat constructor), (by repeat constructor), (fun x => (by repeat constructor)), ?_⟩
        (apply NewW.append; exact rfl; exact rfl; exact UndC.eq; exact SzC.eq; exact ByC.eq; exact ZvC.eq; exact rfl; (first | exact notInt_sl UndC.eq | exact notInt_st UndC.eq); exact rfl; (focus ((repeat constructor); done)))
        · exact adds_blk (by repeat constructor) rfl rfl
        · (rw [hl_pos]; omega)
        · exact fun _ _ h => TakeT.st (by (focus ((repeat (first | exact TakeT.tail | apply TakeT.cons | exact Take.head | apply Take.tail | apply TakeT.drop)); done))) h
      (apply Par.quiet _ [true, false, false, false, true, true, true, true, true]; exact rfl; decide +kernel; exact rfl; intro R; refine ⟨_, (by repeat constructor), ?_⟩;
           (first | (apply EvW.fieldAddr0; exact rfl; exact FldC.eq)))
      apply Par.eff _ [true, false, false, false, false, false, false, false, false] [false, true, false, false, false, false, false, false, false] [false, false, false, false, true, true, true, true, true]
      · exact rfl
      · exact rfl
      · decide +kernel
      · intro R
        refine ⟨_, _, _, (by repeat constructor), (by repeat constructor), (by repeat constructor), ?_⟩
        (apply EffW.storeSl; exact rfl; exact rfl; (focus ((repeat constructor); done)); exact SzC.eq; (focus ((repeat constructor); done)))
      exact Par.nil
    · repeat (first | exact AllN.nil | (apply AllN.cons; (intro c x; (repeat (first | exact IndA.nil | (apply IndA.skip; decide +kernel) | apply IndA.same))))) 
    · repeat (first | exact AllN.nil | (apply AllN.cons; (intro c x; (repeat (first | exact IndT.nil | (apply IndT.skip; decide +kernel) | apply IndT.same))))) 
    · exact fun _ => rfl
    intro c
    refine ⟨_, (by repeat constructor), ?_⟩
    apply WE.writ
    · (focus ((repeat (first | exact Writ.nil | apply Writ.some | apply Writ.none)); done))
    generalize (c 7).1 = b7
    generalize (c 8).2 = b2
    rw [looks_snoc, looks_len, ← e_pos]
    repeat first
      | (apply WL.q; exact rfl; exact rfl; exact rfl; (first | (apply EvW.move; exact rfl) | (apply EvW.arN; exact rfl; exact rfl; exact rfl; refine i64_in ?_ ?_ <;> omega)))
      | refine WC.region ?_ | refine WL.nil ?_ | refine WE.next ?_ | refine WE.out ?_
    exact WE.again (s := (i, a, b)) ((i + 1, a2, b2)) (by simp only []; omega) (by (focus ((repeat (first | exact trivial | (refine ⟨rfl, ?_⟩))); done))) (fun _ h => (by (try simp only []); exact h.keep (by repeat constructor))) (by (try simp only []); omega)
  obtain rfl : i = x.c.secs.length := by omega
  repeat first
    | (apply WL.q; exact rfl; exact rfl; exact rfl; (first | (apply EvW.move; exact rfl) | (apply EvW.nilPtr; exact rfl) | (apply EvW.fieldAddr0; exact rfl; exact FldC.eq) | (apply EvW.ldSeen; exact rfl; exact ScalC.eq; assumption; (first | exact rfl | assumption)) | (apply EvW.cmpF; exact rfl; exact rfl; exact rfl; omega) | (apply EvW.lenRow; exact rfl; exact UndC.eq; assumption)))
    | refine WC.seq ?_ | refine WC.region ?_ | refine WL.nil ?_ | refine WE.next ?_ | refine WC.block ?_ | refine WC.exit ?_ | refine WE.pass ?_ | refine WE.hit ?_ | refine WC.condF rfl ?_
  refine WC.loopK (σ := Nat × Value) [0, 1, 4, 5, 45, 46] (fun s => [(47, i64 s.1)]) (fun s => [.own 44 3 (a) (x.occ now x.c.secs.length).length ((x.occ now x.c.secs.length).flatMap lkC), .own 44 3 (b) (x.pos now x.c.secs.length).length ((x.pos now x.c.secs.length).flatMap lkC), .own 44 3 (s.2) (x.shut now s.1).length ((x.shut now s.1).flatMap lkC), .own 44 3 (.slice none 0 0) 0 [], .blk q #[a, b, s.2, (.slice none 0 0)] 41, .blk r #[(.slice none 0 0), (.slice none 0 0), (.slice none 0 0), (.slice none 0 0)] 41]) (fun s => s.1 ≤ x.c.crs.length) (fun s => x.c.crs.length - s.1) (0, .slice none 0 0) (by (focus ((repeat (first | exact Pick.nil | (apply Pick.cons; exact rfl))); done))) (by (focus ((repeat (first | exact trivial | (refine ⟨rfl, ?_⟩))); done))) (fun _ h => h.keep (by repeat constructor)) (Nat.zero_le _) (fun s hs => ?_)
  obtain ⟨i, d⟩ := s
  simp only [List.cons_append, List.nil_append] at hs ⊢
  by_cases hlt2 : (i : Int) < x.c.crs.length
  · skip
    have hl_shut := x.shut_len now i
    have e_shut : x.shut now (i + 1) = x.shut now i ++ [x.lookV selY now (x.c.crs.getD i 0) i 0] := range_map _ i
    obtain ⟨L_shut, hL_shut⟩ : ∃ L, x.lookV selY now (x.c.crs.getD i 0) i 0 = L := ⟨_, rfl⟩
    rw [hL_shut] at e_shut
    repeat first
      | (apply WL.q; exact rfl; exact rfl; exact rfl; (first | (apply EvW.move; exact rfl) | (apply EvW.assign; exact rfl) | (apply EvW.cmpT; exact rfl; exact rfl; exact rfl; omega) | (apply EvW.idxRow; exact rfl; exact rfl; exact UndC.eq; exact SzC.eq; assumption; omega; omega) | (apply EvW.ldInt; exact rfl; exact ScalC.eq; assumption; omega)))
      | refine WC.seq ?_ | refine WC.region ?_ | refine WL.nil ?_ | refine WE.next ?_ | refine WC.block ?_ | refine WC.skip ?_ | refine WC.condT rfl ?_
    repeat refine WC.seq ?_
    refine WC.keep (xs := [.blk q #[a, b, d, (.slice none 0 0)] 41, .own 44 3 (d) (x.shut now i).length ((x.shut now i).flatMap lkC), .own 44 3 (a) (x.occ now x.c.secs.length).length ((x.occ now x.c.secs.length).flatMap lkC), .own 44 3 (b) (x.pos now x.c.secs.length).length ((x.pos now x.c.secs.length).flatMap lkC), .own 44 3 (.slice none 0 0) 0 [], .blk r #[(.slice none 0 0), (.slice none 0 0), (.slice none 0 0), (.slice none 0 0)] 41]) (by repeat constructor) ?_
    apply WC.par _ (fun c : Ch => [.blk q #[a, b, d, (.slice none 0 0)] 41, .blk q #[a, b, (c 8).2, (.slice none 0 0)] 41, .own 44 3 (d) (x.shut now i).length ((x.shut now i).flatMap lkC), .blk (c 7).1 #[i64 L_shut.1, i64 L_shut.2.1, .bool L_shut.2.2] 44, .own 44 3 ((c 8).2) ((x.shut now i).length + 1) ((x.shut now i).flatMap lkC ++ [i64 L_shut.1, i64 L_shut.2.1, .bool L_shut.2.2]), .own 44 3 (a) (x.occ now x.c.secs.length).length ((x.occ now x.c.secs.length).flatMap lkC), .own 44 3 (b) (x.pos now x.c.secs.length).length ((x.pos now x.c.secs.length).flatMap lkC), .own 44 3 (.slice none 0 0) 0 [], .blk r #[(.slice none 0 0), (.slice none 0 0), (.slice none 0 0), (.slice none 0 0)] 41]) [none, some 10, none, some 7, some 8, none, none, none, none] [some 10, none, some 8, some 8, none, none, none, none, none] [(7, fun x => .slice (some ⟨x.1, 0, none⟩) 1 1), (8, fun x => x.2)] Try.mixed
    · (focus ((repeat (first | exact Restr.nil | (apply Restr.keep; exact rfl; exact rfl) | (apply Restr.drop; exact rfl))); done))
    · intro c; exact (by repeat constructor)
    · exact rfl
    · decide +kernel
    · decide +kernel
    · intro c
      (apply Par.quiet _ [true, false, true, false, false, true, true, true, true]; exact rfl; decide +kernel; exact rfl; intro R; refine ⟨_, (by repeat constructor), ?_⟩;
           (first | (apply EvW.fieldAddr0; exact rfl; exact FldC.eq)))
      (apply Par.quiet _ [true, false, true, false, false, true, true, true, true]; exact rfl; decide +kernel; exact rfl; intro R; refine ⟨_, (by repeat constructor), ?_⟩;
           (first | (apply EvW.load; exact rfl; exact ScalC.eq; (focus ((repeat constructor); done)); exact rfl)))
      (apply Par.quiet _ [true, false, true, false, false, true, true, true, true]; exact rfl; decide +kernel; exact rfl; intro R; refine ⟨_, (by repeat constructor), ?_⟩;
           (first | (apply EvW.move; exact rfl)))
      (apply Par.quiet _ [true, false, true, false, false, true, true, true, true]; exact rfl; decide +kernel; exact rfl; intro R; refine ⟨_, (by repeat constructor), ?_⟩;
           (first | (apply EvW.move; exact rfl)))
      (apply Par.quiet _ [true, false, true, false, false, true, true, true, true]; exact rfl; decide +kernel; exact rfl; intro R; refine ⟨_, (by repeat constructor), ?_⟩;
           (first | (apply EvW.move; exact rfl)))
      (apply Par.quiet _ [true, false, true, false, false, true, true, true, true]; exact rfl; decide +kernel; exact rfl; intro R; refine ⟨_, (by repeat constructor), ?_⟩;
           (first | (apply EvW.move; exact rfl)))
      apply Par.quiet _ [true, false, true, false, false, true, true, true, true]
      · exact rfl
      · decide +kernel
      · exact rfl
      · intro R
        refine ⟨_, (by repeat constructor), ?_⟩
        apply EvW.callK ([])
        · exact rfl
        · exact fun w => Try.call32 _ w
        · (focus ((repeat constructor); done))
        · exact fun w1 S1 hS1 hs1 ho1 => lookI_spec x now (x.c.crs.getD i 0) i 0 _ selY L_shut w1 S1 hS1 (hx.down hs1) hw place3 hG.gy hL_shut
        · exact fun _ _ h => h
      (apply Par.new _ [false, false, false, false, false, false, false, false, false] [false, false, false, true, false, false, false, false, false] [true, false, true, false, false, true, true, true, true]; exact rfl; exact rfl; decide +kernel; intro R; refine ⟨_, _, _, (by repeat constructor), (by repeat constructor), (fun x => (by repeat constructor)), ?_⟩; (apply NewW.buildSlice; exact UndC.eq; exact SzC.eq; exact ZvC.eq; exact rfl; exact rfl; exact rfl; (focus ((repeat (first | exact Flat.nil | (apply Flat.one; (first | exact rfl | assumption)) | (apply Flat.cons; exact rfl; exact rfl))); done)); exact rfl; exact rfl; exact fun _ => rfl))
      apply Par.new _ [false, false, true, true, false, false, false, false, false] [false, false, false, false, true, false, false, false, false] [true, false, false, false, false, true, true, true, true]
      · exact rfl
      · exact rfl
      · decide +kernel
      · intro R
        refine ⟨_, _, _, (by repeat constructor), (by repeat constructor), (fun x => (by repeat constructor)), ?_⟩
        (apply NewW.append; exact rfl; exact rfl; exact UndC.eq; exact SzC.eq; exact ByC.eq; exact ZvC.eq; exact rfl; (first | exact notInt_sl UndC.eq | exact notInt_st UndC.eq); exact rfl; (focus ((repeat constructor); done)))
        · exact adds_blk (by repeat constructor) rfl rfl
        · (rw [hl_shut]; omega)
        · exact fun _ _ h => TakeT.st (by (focus ((repeat (first | exact TakeT.tail | apply TakeT.cons | exact Take.head | apply Take.tail | apply TakeT.drop)); done))) h
      (apply Par.quiet _ [true, false, false, false, true, true, true, true, true]; exact rfl; decide +kernel; exact rfl; intro R; refine ⟨_, (by repeat constructor), ?_⟩;
           (first | (apply EvW.fieldAddr0; exact rfl; exact FldC.eq)))
      apply Par.eff _ [true, false, false, false, false, false, false, false, false] [false, true, false, false, false, false, false, false, false] [false, false, false, false, true, true, true, true, true]
      · exact rfl
      · exact rfl
      · decide +kernel
      · intro R
        refine ⟨_, _, _, (by repeat constructor), (by repeat constructor), (by repeat constructor), ?_⟩
        (apply EffW.storeSl; exact rfl; exact rfl; (focus ((repeat constructor); done)); exact SzC.eq; (focus ((repeat constructor); done)))
      exact Par.nil
    · repeat (first | exact AllN.nil | (apply AllN.cons; (intro c x; (repeat (first | exact IndA.nil | (apply IndA.skip; decide +kernel) | apply IndA.same))))) 
    · repeat (first | exact AllN.nil | (apply AllN.cons; (intro c x; (repeat (first | exact IndT.nil | (apply IndT.skip; decide +kernel) | apply IndT.same))))) 
    · exact fun _ => rfl
    intro c
    refine ⟨_, (by repeat constructor), ?_⟩
    apply WE.writ
    · (focus ((repeat (first | exact Writ.nil | apply Writ.some | apply Writ.none)); done))
    generalize (c 7).1 = b7
    generalize (c 8).2 = d2
    rw [looks_snoc, looks_len, ← e_shut]
    repeat first
      | (apply WL.q; exact rfl; exact rfl; exact rfl; (first | (apply EvW.move; exact rfl) | (apply EvW.arN; exact rfl; exact rfl; exact rfl; refine i64_in ?_ ?_ <;> omega)))
      | refine WC.region ?_ | refine WL.nil ?_ | refine WE.next ?_ | refine WE.out ?_
    exact WE.again (s := (i, d)) ((i + 1, d2)) (by simp only []; omega) (by (focus ((repeat (first | exact trivial | (refine ⟨rfl, ?_⟩))); done))) (fun _ h => (by (try simp only []); exact h.keep (by repeat constructor))) (by (try simp only []); omega)
  obtain rfl : i = x.c.crs.length := by omega
  repeat first
    | (apply WL.q; exact rfl; exact rfl; exact rfl; (first | (apply EvW.move; exact rfl) | (apply EvW.nilPtr; exact rfl) | (apply EvW.fieldAddr0; exact rfl; exact FldC.eq) | (apply EvW.ldSeen; exact rfl; exact ScalC.eq; assumption; (first | exact rfl | assumption)) | (apply EvW.cmpF; exact rfl; exact rfl; exact rfl; omega) | (apply EvW.lenRow; exact rfl; exact UndC.eq; assumption)))
    | refine WC.seq ?_ | refine WC.region ?_ | refine WL.nil ?_ | refine WE.next ?_ | refine WC.block ?_ | refine WC.exit ?_ | refine WE.pass ?_ | refine WE.hit ?_ | refine WC.condF rfl ?_
  refine WC.loopK (σ := Nat × Value) [0, 1, 4, 5, 67, 68] (fun s => [(69, i64 s.1)]) (fun s => [.own 44 3 (a) (x.occ now x.c.secs.length).length ((x.occ now x.c.secs.length).flatMap lkC), .own 44 3 (b) (x.pos now x.c.secs.length).length ((x.pos now x.c.secs.length).flatMap lkC), .own 44 3 (d) (x.shut now x.c.crs.length).length ((x.shut now x.c.crs.length).flatMap lkC), .own 44 3 (s.2) (x.lamp now s.1).length ((x.lamp now s.1).flatMap lkC), .blk q #[a, b, d, s.2] 41, .blk r #[(.slice none 0 0), (.slice none 0 0), (.slice none 0 0), (.slice none 0 0)] 41]) (fun s => s.1 ≤ x.c.sigs.length) (fun s => x.c.sigs.length - s.1) (0, .slice none 0 0) (by (focus ((repeat (first | exact Pick.nil | (apply Pick.cons; exact rfl))); done))) (by (focus ((repeat (first | exact trivial | (refine ⟨rfl, ?_⟩))); done))) (fun _ h => h.keep (by repeat constructor)) (Nat.zero_le _) (fun s hs => ?_)
  obtain ⟨i, e⟩ := s
  simp only [List.cons_append, List.nil_append] at hs ⊢
  by_cases hlt3 : (i : Int) < x.c.sigs.length
  · skip
    have hl_lamp := x.lamp_len now i
    have e_lamp : x.lamp now (i + 1) = x.lamp now i ++ [x.lookV selD now (x.c.sigs.getD i default).s i 0] := range_map _ i
    obtain ⟨L_lamp, hL_lamp⟩ : ∃ L, x.lookV selD now (x.c.sigs.getD i default).s i 0 = L := ⟨_, rfl⟩
    rw [hL_lamp] at e_lamp
    repeat first
      | (apply WL.q; exact rfl; exact rfl; exact rfl; (first | (apply EvW.move; exact rfl) | (apply EvW.cmpT; exact rfl; exact rfl; exact rfl; omega) | (apply EvW.idxRow; exact rfl; exact rfl; exact UndC.eq; exact SzC.eq; assumption; omega; omega)))
      | refine WC.seq ?_ | refine WC.region ?_ | refine WL.nil ?_ | refine WE.next ?_ | refine WC.block ?_ | refine WC.skip ?_ | refine WC.condT rfl ?_
    (apply WL.q; exact rfl; exact rfl; exact rfl; (apply EvW.ldElem (xs := x.c.sigs) (z := (default : Sig)) (f := sigC); exact rfl; exact AggC.eq; exact SzC.eq; exact rfl; exact fun _ => rfl; assumption; omega))
    try refine WL.wanted rfl rfl rfl ?_
    (apply WL.alloc; exact rfl; exact ZvC.eq; exact rfl; intro z)
    rw [show ((i : Nat) : Int).toNat = i from rfl]
    generalize x.c.sigs.getD i default = g at hL_lamp
    repeat first
      | (apply WL.q; exact rfl; exact rfl; exact rfl; (first | (apply EvW.assign; exact rfl)))
      | refine WL.nil ?_ | refine WE.next ?_ | (apply WL.store; exact rfl; exact rfl; (first | assumption | exact rfl); exact SzC.eq; (first | assumption | exact rfl); (focus ((repeat constructor); done)))
    repeat refine WC.seq ?_
    refine WC.keep (xs := [.blk q #[a, b, d, e] 41, .own 44 3 (e) (x.lamp now i).length ((x.lamp now i).flatMap lkC), .own 44 3 (a) (x.occ now x.c.secs.length).length ((x.occ now x.c.secs.length).flatMap lkC), .own 44 3 (b) (x.pos now x.c.secs.length).length ((x.pos now x.c.secs.length).flatMap lkC), .own 44 3 (d) (x.shut now x.c.crs.length).length ((x.shut now x.c.crs.length).flatMap lkC), .blk r #[(.slice none 0 0), (.slice none 0 0), (.slice none 0 0), (.slice none 0 0)] 41, .blk z #[i64 g.s, i64 g.e] 70]) (by repeat constructor) ?_
    apply WC.par _ (fun c : Ch => [.blk q #[a, b, d, e] 41, .blk q #[a, b, d, (c 9).2] 41, .own 44 3 (e) (x.lamp now i).length ((x.lamp now i).flatMap lkC), .blk (c 8).1 #[i64 L_lamp.1, i64 L_lamp.2.1, .bool L_lamp.2.2] 44, .own 44 3 ((c 9).2) ((x.lamp now i).length + 1) ((x.lamp now i).flatMap lkC ++ [i64 L_lamp.1, i64 L_lamp.2.1, .bool L_lamp.2.2]), .own 44 3 (a) (x.occ now x.c.secs.length).length ((x.occ now x.c.secs.length).flatMap lkC), .own 44 3 (b) (x.pos now x.c.secs.length).length ((x.pos now x.c.secs.length).flatMap lkC), .own 44 3 (d) (x.shut now x.c.crs.length).length ((x.shut now x.c.crs.length).flatMap lkC), .blk r #[(.slice none 0 0), (.slice none 0 0), (.slice none 0 0), (.slice none 0 0)] 41, .blk z #[i64 g.s, i64 g.e] 70]) [none, some 11, none, some 8, some 9, none, none, none, none, none] [some 11, none, some 9, some 9, none, none, none, none, none, none] [(8, fun x => .slice (some ⟨x.1, 0, none⟩) 1 1), (9, fun x => x.2)] Try.mixed
    · (focus ((repeat (first | exact Restr.nil | (apply Restr.keep; exact rfl; exact rfl) | (apply Restr.drop; exact rfl))); done))
    · intro c; exact (by repeat constructor)
    · exact rfl
    · decide +kernel
    · decide +kernel
    · intro c
      (apply Par.quiet _ [true, false, true, false, false, true, true, true, true, true]; exact rfl; decide +kernel; exact rfl; intro R; refine ⟨_, (by repeat constructor), ?_⟩;
           (first | (apply EvW.fieldAddr0; exact rfl; exact FldC.eq)))
      (apply Par.quiet _ [true, false, true, false, false, true, true, true, true, true]; exact rfl; decide +kernel; exact rfl; intro R; refine ⟨_, (by repeat constructor), ?_⟩;
           (first | (apply EvW.load; exact rfl; exact ScalC.eq; (focus ((repeat constructor); done)); exact rfl)))
      (apply Par.quiet _ [true, false, true, false, false, true, true, true, true, true]; exact rfl; decide +kernel; exact rfl; intro R; refine ⟨_, (by repeat constructor), ?_⟩;
           (first | (apply EvW.move; exact rfl)))
      (apply Par.quiet _ [true, false, true, false, false, true, true, true, true, true]; exact rfl; decide +kernel; exact rfl; intro R; refine ⟨_, (by repeat constructor), ?_⟩;
           (first | (apply EvW.move; exact rfl)))
      (apply Par.quiet _ [true, false, true, false, false, true, true, true, true, true]; exact rfl; decide +kernel; exact rfl; intro R; refine ⟨_, (by repeat constructor), ?_⟩;
           (first | (apply EvW.fieldAddr0; exact rfl; exact FldC.eq)))
      (apply Par.quiet _ [true, false, true, false, false, true, true, true, true, true]; exact rfl; decide +kernel; exact rfl; intro R; refine ⟨_, (by repeat constructor), ?_⟩;
           (first | (apply EvW.load; exact rfl; exact ScalC.eq; (focus ((repeat constructor); done)); exact rfl)))
      (apply Par.quiet _ [true, false, true, false, false, true, true, true, true, true]; exact rfl; decide +kernel; exact rfl; intro R; refine ⟨_, (by repeat constructor), ?_⟩;
           (first | (apply EvW.move; exact rfl)))
      apply Par.quiet _ [true, false, true, false, false, true, true, true, true, true]
      · exact rfl
      · decide +kernel
      · exact rfl
      · intro R
        refine ⟨_, (by repeat constructor), ?_⟩
        apply EvW.callK ([])
        · exact rfl
        · exact fun w => Try.call32 _ w
        · (focus ((repeat constructor); done))
        · exact fun w1 S1 hS1 hs1 ho1 => lookI_spec x now g.s i 0 _ selD L_lamp w1 S1 hS1 (hx.down hs1) hw place4 hG.gd hL_lamp
        · exact fun _ _ h => h
      (apply Par.new _ [false, false, false, false, false, false, false, false, false, false] [false, false, false, true, false, false, false, false, false, false] [true, false, true, false, false, true, true, true, true, true]; exact rfl; exact rfl; decide +kernel; intro R; refine ⟨_, _, _, (by repeat constructor), (by repeat constructor), (fun x => (by repeat constructor)), ?_⟩; (apply NewW.buildSlice; exact UndC.eq; exact SzC.eq; exact ZvC.eq; exact rfl; exact rfl; exact rfl; (focus ((repeat (first | exact Flat.nil | (apply Flat.one; (first | exact rfl | assumption)) | (apply Flat.cons; exact rfl; exact rfl))); done)); exact rfl; exact rfl; exact fun _ => rfl))
      apply Par.new _ [false, false, true, true, false, false, false, false, false, false] [false, false, false, false, true, false, false, false, false, false] [true, false, false, false, false, true, true, true, true, true]
      · exact rfl
      · exact rfl
      · decide +kernel
      · intro R
        refine ⟨_, _, _, (by repeat constructor), (by repeat constructor), (fun x => (by repeat constructor)), ?_⟩
        (apply NewW.append; exact rfl; exact rfl; exact UndC.eq; exact SzC.eq; exact ByC.eq; exact ZvC.eq; exact rfl; (first | exact notInt_sl UndC.eq | exact notInt_st UndC.eq); exact rfl; (focus ((repeat constructor); done)))
        · exact adds_blk (by repeat constructor) rfl rfl
        · (rw [hl_lamp]; omega)
        · exact fun _ _ h => TakeT.st (by (focus ((repeat (first | exact TakeT.tail | apply TakeT.cons | exact Take.head | apply Take.tail | apply TakeT.drop)); done))) h
      (apply Par.quiet _ [true, false, false, false, true, true, true, true, true, true]; exact rfl; decide +kernel; exact rfl; intro R; refine ⟨_, (by repeat constructor), ?_⟩;
           (first | (apply EvW.fieldAddr0; exact rfl; exact FldC.eq)))
      apply Par.eff _ [true, false, false, false, false, false, false, false, false, false] [false, true, false, false, false, false, false, false, false, false] [false, false, false, false, true, true, true, true, true, true]
      · exact rfl
      · exact rfl
      · decide +kernel
      · intro R
        refine ⟨_, _, _, (by repeat constructor), (by repeat constructor), (by repeat constructor), ?_⟩
        (apply EffW.storeSl; exact rfl; exact rfl; (focus ((repeat constructor); done)); exact SzC.eq; (focus ((repeat constructor); done)))
      exact Par.nil
    · repeat (first | exact AllN.nil | (apply AllN.cons; (intro c x; (repeat (first | exact IndA.nil | (apply IndA.skip; decide +kernel) | apply IndA.same))))) 
    · repeat (first | exact AllN.nil | (apply AllN.cons; (intro c x; (repeat (first | exact IndT.nil | (apply IndT.skip; decide +kernel) | apply IndT.same))))) 
    · exact fun _ => rfl
    intro c
    refine ⟨_, (by repeat constructor), ?_⟩
    apply WE.writ
    · (focus ((repeat (first | exact Writ.nil | apply Writ.some | apply Writ.none)); done))
    generalize (c 8).1 = b8
    generalize (c 9).2 = e2
    rw [looks_snoc, looks_len, ← e_lamp]
    repeat first
      | (apply WL.q; exact rfl; exact rfl; exact rfl; (first | (apply EvW.move; exact rfl) | (apply EvW.arN; exact rfl; exact rfl; exact rfl; refine i64_in ?_ ?_ <;> omega)))
      | refine WC.region ?_ | refine WL.nil ?_ | refine WE.next ?_ | refine WE.out ?_
    exact WE.again (s := (i, e)) ((i + 1, e2)) (by simp only []; omega) (by (focus ((repeat (first | exact trivial | (refine ⟨rfl, ?_⟩))); done))) (fun _ h => (by (try simp only []); exact h.keep (by repeat constructor))) (by (try simp only []); omega)
  obtain rfl : i = x.c.sigs.length := by omega
  (first | refine WL.slOwn (v := a) (by repeat constructor) ?_ | refine WC.slOwn (v := a) (by repeat constructor) ?_)
  intro hc_a ho_a
  (first | refine WL.slOwn (v := b) (by repeat constructor) ?_ | refine WC.slOwn (v := b) (by repeat constructor) ?_)
  intro hc_b ho_b
  (first | refine WL.slOwn (v := d) (by repeat constructor) ?_ | refine WC.slOwn (v := d) (by repeat constructor) ?_)
  intro hc_d ho_d
  (first | refine WL.slOwn (v := e) (by repeat constructor) ?_ | refine WC.slOwn (v := e) (by repeat constructor) ?_)
  intro hc_e ho_e
  have hall : ([a, b, d, e] : List Value).all (·.oneCell') = true := by
    simp at ho_a ho_b ho_d ho_e
    simp [ho_a, ho_b, ho_d, ho_e]
  clear hc_a hc_b hc_d hc_e ho_a ho_b ho_d ho_e
  repeat first
    | (apply WL.q; exact rfl; exact rfl; exact rfl; (first | (apply EvW.cmpF; exact rfl; exact rfl; exact rfl; omega) | (apply EvW.loadAgg; exact rfl; exact AggC.eq; exact SzC.eq; (focus ((repeat constructor); done)); (focus ((repeat (first | exact SubL.nil | apply SubL.cons | apply SubL.succ)); done)))))
    | refine WC.seq ?_ | refine WC.region ?_ | refine WL.nil ?_ | refine WE.next ?_ | refine WC.exit ?_ | refine WE.pass ?_ | refine WE.hit ?_ | refine WC.condF rfl ?_ | refine WC.ret ?_ | (apply WL.store; exact rfl; exact rfl; (first | assumption | exact rfl); exact SzC.eq; (first | assumption | exact rfl); (focus ((repeat constructor); done)))
  (apply WE.retC (A' := [.own 44 3 (a) (x.occ now x.c.secs.length).length ((x.occ now x.c.secs.length).flatMap lkC), .own 44 3 (b) (x.pos now x.c.secs.length).length ((x.pos now x.c.secs.length).flatMap lkC), .own 44 3 (d) (x.shut now x.c.crs.length).length ((x.shut now x.c.crs.length).flatMap lkC), .own 44 3 (e) (x.lamp now x.c.sigs.length).length ((x.lamp now x.c.sigs.length).flatMap lkC)]); exact rfl; exact rfl; (focus ((repeat constructor); done)); exact AggC.eq; exact SzC.eq; exact fun _ h => h.keep (by repeat constructor))
  exact ⟨a, b, d, e, rfl, rfl⟩
end Go.Proofs.Ytamofjpadnnppaa
namespace Go.BK
open Go.RowKit
section
variable {P : Program} {w0 : World} {S0 : BSet} {n : Nat} {F : Fr} {A r : List HP} {ops : Array Oper} {rest : List Oper} {Q : Exit → Act → World → Prop} {L LR : List HP}
theorem St.pack {w : World} (h : TakeL L A r) (st : St w0 S0 A w) : St w0 S0 (sepL L :: r) w := st.mono fun _ _ hs => h.star hs
theorem St.unpack {w : World} (ht : Take (sepL L) A r) (hL : LR = L ++ r) (st : St w0 S0 A w) : St w0 S0 LR w := st.mono fun _ _ hs => by rw [hL]; exact sepL_append (ht.star hs)
theorem WL.pack (h : TakeL L A r) (kk : WL P w0 S0 n ops Q rest F (sepL L :: r)) : WL P w0 S0 n ops Q rest F A := kk.conv fun _ hs => hs.pack h
theorem WC.pack {c : Code} (h : TakeL L A r) (kk : WC P w0 S0 n c Q F (sepL L :: r)) : WC P w0 S0 n c Q F A := kk.conv fun _ hs => hs.pack h
theorem WE.pack {e : Exit} (h : TakeL L A r) (kk : WE w0 S0 n Q e F (sepL L :: r)) : WE w0 S0 n Q e F A := kk.conv fun _ hs => hs.pack h
theorem WL.unpack (ht : Take (sepL L) A r) (hL : LR = L ++ r) (kk : WL P w0 S0 n ops Q rest F LR) : WL P w0 S0 n ops Q rest F A := kk.conv fun _ hs => hs.unpack ht hL
theorem WC.unpack {c : Code} (ht : Take (sepL L) A r) (hL : LR = L ++ r) (kk : WC P w0 S0 n c Q F LR) : WC P w0 S0 n c Q F A := kk.conv fun _ hs => hs.unpack ht hL
theorem WE.unpack {e : Exit} (ht : Take (sepL L) A r) (hL : LR = L ++ r) (kk : WE w0 S0 n Q e F LR) : WE w0 S0 n Q e F A := kk.conv fun _ hs => hs.unpack ht hL
theorem St.noneL {w : World} (h : St w0 S0 A w) : St w0 S0 (sepL [] :: A) w :=
  h.mono fun S w hs => ⟨fun _ => False, S, fun b => by simp, fun b hb => hb.elim, fun _ h => h, hs⟩
theorem WC.noneL {c : Code} (kk : WC P w0 S0 n c Q F (sepL [] :: A)) : WC P w0 S0 n c Q F A := kk.conv fun _ hs => St.noneL hs
/-- A part of what is seen. -/
theorem Sees.part {w : World} {S : BSet} {B : HP} {L' : List HP} (h : Sees w S (sepL L)) (ht : Take B L L') : Sees w S B := by
  obtain ⟨R, h1, h2⟩ := h
  obtain ⟨S1, S2, hu, _, h3, _⟩ := ht.star h1
  exact ⟨S1, h3, fun b hb => h2 b ((hu b).2 (.inl hb))⟩
end
/-- The j-th of the values that a value holds; the block that it points to. -/
def cA (v : Value) (j : Nat) : Value := match v with
  | .agg cs => cs.toList.getD j default
  | _ => default
def pB (v : Value) : Nat := match v with
  | .pointer (some a) => a.block
  | _ => 0
theorem take_map_last {α : Type} (f : α → HP) (x : α) : ∀ l : List α, Take (f x) ((l ++ [x]).map f) (l.map f)
  | [] => .head
  | _ :: r => .tail (take_map_last f x r)
theorem take_map_at {α : Type} {f : α → HP} {l : List α} {d : α} {i : Nat} (h : i < l.length) : (l.map f)[i]? = some (f (l.getD i d)) := by
  rw [List.getElem?_map, List.getD_eq_getElem?_getD, List.getElem?_eq_getElem h]; rfl
theorem take_map_set {α : Type} {f : α → HP} {l : List α} {i : Nat} (x : α) (h : i < l.length) : Take (f x) ((l.set i x).map f) ((l.map f).eraseIdx i) := by
  rw [List.map_set]
  exact take_set _ (by rw [List.length_map]; exact h)
end Go.BK
namespace Go.BK
open Go.RowKit
section
variable {P : Program} {w0 : World} {S0 : BSet} {n : Nat} {F : Fr} {A A' r r' : List HP} {bl bl' : Nat} {T T' U U' : TypeId}
/-- A type of ints or of truths, and a value of it. -/
def flatT : Option TypeDesc → Bool
  | some (.int _) => true
  | some .bool => true
  | _ => false
def flatV : Option TypeDesc → Option Value → Bool
  | some (.int _), some (.int _ _) => true
  | some .bool, some (.bool _) => true
  | _, _ => false
theorem runPartF {w : World} {t : TypeId} {cs : Array Value} {off : Nat} {v : Value} (hu : flatT (P.underlying t) = true) (h : cs[off]? = some v) : (part t cs off).run P w = .ok v w := by
  revert hu
  cases hd : P.underlying t with
  | none => intro h; cases h
  | some d => cases d <;> intro hu <;> first | (simp [part, isAgg, run_underlying hd, h]; done) | cases hu
theorem runEqFlat {w : World} {t : TypeId} {v : Value} (d : Nat) (hu : flatV (P.underlying t) (some v) = true) : (Op.equalIn (d + 1) t v v).run P w = .ok true w := by
  revert hu
  cases hd : P.underlying t with
  | none => intro h; cases h
  | some e =>
    cases e <;> intro hu <;> first | (cases hu; done) | skip
    all_goals (cases v <;> first | (cases hu; done) | (simp [Op.equalIn, run_underlying hd]; done))
theorem flatV_T {o : Option TypeDesc} {v : Option Value} (h : flatV o v = true) : flatT o = true := by
  cases o with
  | none => cases h
  | some d => cases d <;> first | rfl | (cases v <;> cases h)
def isBoolT : Option TypeDesc → Bool
  | some .bool => true
  | _ => false
def mixV : Bool → Option Value → Bool
  | false, some (.int _ _) => true
  | true, some (.bool _) => true
  | _, _ => false
/-- A struct of ints and truths against itself: the fields' places, which are truths. -/
def mixB (P : Program) (t : TypeId) : Option (List (Nat × Bool)) := match P.underlying t with
  | some (.struct fs) => bif !P.stoodInHeld t && !P.eqGuardType P.depth t && fs.toList.all (fun f => f.name != "_" && flatT (P.underlying f.type)) then some (fs.toList.map fun f => (f.offset, isBoolT (P.underlying f.type))) else none
  | _ => none
theorem mix_flat {o : Option TypeDesc} {v : Option Value} (h : flatT o = true) (hv : mixV (isBoolT o) v = true) : flatV o v = true := by
  cases o with
  | none => cases h
  | some d =>
    cases d <;> first | (cases h; done) | skip
    all_goals (cases v with
      | none => cases hv
      | some v => cases v <;> first | rfl | cases hv)
theorem runEqMix {w : World} {t : TypeId} {fs : List Field} {l : List Value} (hu : P.underlying t = some (.struct fs.toArray)) (hst : P.stoodInHeld t = false) (hf : ∀ f ∈ fs, f.name ≠ "_" ∧ flatV (P.underlying f.type) l[f.offset]? = true) :
    (Op.equal t (.agg l.toArray) (.agg l.toArray)).run P w = .ok true w := by
  have key : ∀ d, (Op.equalIn (d + 2) t (.agg l.toArray) (.agg l.toArray)).run P w = .ok true w := fun d => by
    rw [Op.equalIn]
    simp only [Sem.run_bind, run_underlying hu, Result.andThen]
    have hp : Sem.run P program w = .ok P w := rfl
    simp only [hp, hst, Bool.false_eq_true, ↓reduceIte, List.forIn_toArray, Sem.run_bind]
    rw [runForYield]
    · rfl
    · intro f hf'
      obtain ⟨h1, h2⟩ := hf f hf'
      cases hv : l[f.offset]? with
      | none => rw [hv] at h2; revert h2; cases P.underlying f.type with
        | none => intro h; cases h
        | some d => cases d <;> intro h <;> cases h
      | some v =>
        rw [hv] at h2
        rw [if_pos h1]
        simp only [Sem.run_bind, runPartF (flatV_T h2) (show l.toArray[f.offset]? = some v by simpa using hv), Result.andThen, runEqFlat d h2]
        rfl
  exact key 9998
theorem mixB_get {t : TypeId} {ks : List (Nat × Bool)} {l : List Value} (hB : mixB P t = some ks) (hl : ks.all (fun k => mixV k.2 (getL l k.1)) = true) :
    P.eqGuardType P.depth t = false ∧ ∀ w, (Op.equal t (.agg l.toArray) (.agg l.toArray)).run P w = .ok true w := by
  unfold mixB at hB
  cases hu : P.underlying t with
  | none => simp [hu] at hB
  | some d =>
    cases d with
    | struct gs =>
      rw [hu] at hB
      dsimp only at hB
      cases hc : (!P.stoodInHeld t && !P.eqGuardType P.depth t && gs.toList.all (fun f => f.name != "_" && flatT (P.underlying f.type))) with
      | false => rw [hc] at hB; exact absurd hB (by simp)
      | true =>
        rw [hc, cond_true, Option.some.injEq] at hB
        subst hB
        rw [Bool.and_eq_true, Bool.and_eq_true] at hc
        obtain ⟨⟨h1, h2⟩, h3⟩ := hc
        refine ⟨by simpa using h2, fun w => runEqMix (fs := gs.toList) (by simpa using hu) (by simpa using h1) fun f hf => ?_⟩
        have h4 := List.all_eq_true.1 h3 f hf
        rw [Bool.and_eq_true] at h4
        have h5 := List.all_eq_true.1 hl _ (List.mem_map.2 ⟨f, hf, rfl⟩)
        rw [getL_eq] at h5
        exact ⟨by simpa using h4.1, mix_flat h4.2 h5⟩
    | _ => simp [hu] at hB
theorem EvW.eqMix {t ty : TypeId} {x y : Operand} {dd : Option Tmp} {T : TypeId} {pos : String} {af : Array Edge} {g : Option (Nat × Bool)} (ks : List (Nat × Bool)) {l : List Value} (hx : ev F x = some (.agg l.toArray)) (hy : ev F y = some (.agg l.toArray)) (hB : mixB P t = some ks) (hl : ks.all (fun k => mixV k.2 (getL l k.1)) = true) : EvW P w0 S0 n F A ⟨dd, .binOp .eql t x y ty, T, pos, af, g⟩ (.bool true) :=
  .pure fun a' w ha _ => by
    obtain ⟨h1, h2⟩ := mixB_get hB hl
    simp [execOp, ha.eval hx, ha.eval hy, eqGuard, h1, binOp, h2]
end
end Go.BK
namespace Go.Proofs.Ytamofjpadnnppaa
open Go.RowKit Go.BK
/-- The places up to n of which p holds. -/
def idx (p : Nat → Bool) (n : Nat) : List Int := ((List.range n).filter p).map fun i : Nat => (i : Int)
theorem idx_yes {p : Nat → Bool} {n : Nat} (h : p n = true) : idx p (n + 1) = idx p n ++ [(n : Int)] := by
  unfold idx
  rw [List.range_succ, List.filter_append, List.filter_cons_of_pos h, List.filter_nil, List.map_append]; rfl
theorem idx_no {p : Nat → Bool} {n : Nat} (h : p n = false) : idx p (n + 1) = idx p n := by
  unfold idx
  rw [List.range_succ, List.filter_append, List.filter_cons_of_neg (by simp [h]), List.filter_nil, List.append_nil]
theorem idx_le (p : Nat → Bool) (n : Nat) : (idx p n).length ≤ n := by
  unfold idx
  rw [List.length_map]
  have := List.length_filter_le p (List.range n)
  rwa [List.length_range] at this
def Cfg.pS (c : Cfg) (oc : Int) (i : Nat) : Bool := c.mine oc i
def Cfg.pP (c : Cfg) (oc : Int) (i : Nat) : Bool := c.mine oc i && decide ((c.secs.getD i default).k = 1)
def Cfg.pC (c : Cfg) (oc : Int) (i : Nat) : Bool := c.mine oc (c.crs.getD i 0)
def Cfg.pG (c : Cfg) (oc : Int) (i : Nat) : Bool := c.mine oc (c.sigs.getD i default).s
def Cfg.lS (c : Cfg) (oc : Int) : List Int := idx (c.pS oc) c.secs.length
def Cfg.lP (c : Cfg) (oc : Int) : List Int := idx (c.pP oc) c.secs.length
def Cfg.lC (c : Cfg) (oc : Int) : List Int := idx (c.pC oc) c.crs.length
def Cfg.lG (c : Cfg) (oc : Int) : List Int := idx (c.pG oc) c.sigs.length
theorem shape_spec (c : Cfg) (oc : Int) (w : World) (S : BSet) (hS : (sepL []).sat S w) (h : c.Seen w S) :
    Tri Try.prog 28 #[.agg (cfgC c).toArray, i64 oc] w S fun u A => ∃ a b d e, u = .agg #[a, b, d, e] ∧ A = [.own 3 1 (a) (c.lS oc).length ((c.lS oc).map i64), .own 3 1 (b) (c.lP oc).length ((c.lP oc).map i64), .own 3 1 (d) (c.lC oc).length ((c.lC oc).map i64), .own 3 1 (e) (c.lG oc).length ((c.lG oc).map i64)] := by
  refine Tri.enter (l := [.agg (cfgC c).toArray, i64 oc]) Try.func28 rfl Try.ntmps28 rfl [(0, .agg (cfgC c).toArray), (1, i64 oc)] (subA rfl) hS ?_
  have hsec := h.secs
  have hsig := h.sigs
  have hcrs := h.crs
  have hnS := h.nS
  have hnG := h.nG
  have hnC := h.nC
  repeat first
    | refine WC.seq ?_ | refine WC.region ?_
  try refine WL.wanted rfl rfl rfl ?_
  (apply WL.box; exact rfl; exact rfl; exact rfl; intro q1)
  skip
  try refine WL.wanted rfl rfl rfl ?_
  (apply WL.box; exact rfl; exact rfl; exact rfl; intro q2)
  skip
  try refine WL.wanted rfl rfl rfl ?_
  (apply WL.alloc; exact rfl; exact ZvC.eq; exact rfl; intro r)
  repeat first
    | (apply WL.q; exact rfl; exact rfl; exact rfl; (first | (apply EvW.assign; exact rfl) | (apply EvW.makeFunc; exact rfl)))
    | refine WC.seq ?_ | refine WC.region ?_ | refine WL.nil ?_ | refine WE.next ?_
  try refine WL.wanted rfl rfl rfl ?_
  (apply WL.alloc; exact rfl; exact ZvC.eq; exact rfl; intro hh)
  repeat first
    | (apply WL.q; exact rfl; exact rfl; exact rfl; (first | (apply EvW.move; exact rfl) | (apply EvW.fieldAddr0; exact rfl; exact FldC.eq) | (apply EvW.load; exact rfl; exact ScalC.eq; (focus ((repeat constructor); done)); exact rfl) | (apply EvW.lenRow; exact rfl; exact UndC.eq; assumption)))
    | refine WC.seq ?_ | refine WC.region ?_ | refine WL.nil ?_ | refine WE.next ?_ | refine WC.block ?_
  refine WC.ownNil 3 1 ?_
  refine WC.ownNil 3 1 ?_
  refine WC.ownNil 3 1 ?_
  refine WC.ownNil 3 1 ?_
  refine WC.loopK (σ := Nat × Value × Value) [2, 4, 5, 6, 15, 16] (fun s => [(17, i64 s.1)]) (fun s => [.own 3 1 (s.2.1) (idx (c.pS oc) s.1).length ((idx (c.pS oc) s.1).map i64), .own 3 1 (s.2.2) (idx (c.pP oc) s.1).length ((idx (c.pP oc) s.1).map i64), .own 3 1 (.slice none 0 0) 0 [], .own 3 1 (.slice none 0 0) 0 [], .blk hh #[s.2.1, s.2.2, .slice none 0 0, .slice none 0 0] 51, .blk r #[.slice none 0 0, .slice none 0 0, .slice none 0 0, .slice none 0 0] 51, .blk q2 [i64 oc].toArray 3, .blk q1 (cfgC c).toArray 30]) (fun s => s.1 ≤ c.secs.length) (fun s => c.secs.length - s.1) (0, .slice none 0 0, .slice none 0 0) (by (focus ((repeat (first | exact Pick.nil | (apply Pick.cons; exact rfl))); done))) (by (focus ((repeat (first | exact trivial | (refine ⟨rfl, ?_⟩))); done))) (fun _ h => h.keep (by repeat constructor)) (Nat.zero_le _) (fun s hs => ?_)
  obtain ⟨i, a, b⟩ := s
  simp only [List.cons_append, List.nil_append] at hs ⊢
  by_cases hlt : (i : Int) < c.secs.length
  · have hl1 := idx_le (c.pS oc) i
    have hl2 := idx_le (c.pP oc) i
    repeat first
      | (apply WL.q; exact rfl; exact rfl; exact rfl; (first | (apply EvW.move; exact rfl) | (apply EvW.cmpT; exact rfl; exact rfl; exact rfl; omega) | (apply EvW.idxRow; exact rfl; exact rfl; exact UndC.eq; exact SzC.eq; assumption; omega; omega)))
      | refine WC.seq ?_ | refine WC.region ?_ | refine WL.nil ?_ | refine WE.next ?_ | refine WC.block ?_ | refine WC.skip ?_ | refine WC.condT rfl ?_
    (apply WL.q; exact rfl; exact rfl; exact rfl; (apply EvW.ldElem (xs := c.secs) (z := (default : Sec)) (f := secC); exact rfl; exact AggC.eq; exact SzC.eq; exact rfl; exact fun _ => rfl; assumption; omega))
    try refine WL.wanted rfl rfl rfl ?_
    (apply WL.alloc; exact rfl; exact ZvC.eq; exact rfl; intro x)
    repeat first
      | (apply WL.q; exact rfl; exact rfl; exact rfl; (first | (apply EvW.move; exact rfl) | (apply EvW.assign; exact rfl)))
      | refine WC.seq ?_ | refine WC.region ?_ | refine WL.nil ?_ | refine WE.next ?_ | (apply WL.store; exact rfl; exact rfl; (first | assumption | exact rfl); exact SzC.eq; (first | assumption | exact rfl); (focus ((repeat constructor); done)))
    try refine WL.wanted rfl rfl rfl ?_
    apply WL.callV ([])
    · exact rfl
    · exact rfl
    · exact rfl
    · exact fun w => Try.call56 _ w
    · (focus ((repeat constructor); done))
    · exact fun w1 S1 hS1 hs1 ho1 => mine_spec c q1 q2 (i : Int) oc w1 S1 hS1 (h.down hs1) (ho1 _ _ (by repeat constructor)) (ho1 _ _ (by repeat constructor))
    rintro _ _ ⟨rfl, rfl⟩
    first | refine WL.app4 ?_ | refine WL.app3 ?_ | refine WL.app2 ?_ | refine WL.app1 ?_ | refine WL.app0 ?_ | skip
    by_cases hm : c.mine oc i = true
    · rw [hm]
      have e1 : idx (c.pS oc) (i + 1) = idx (c.pS oc) i ++ [(i : Int)] := idx_yes hm
      have hl3 := idx_le (c.pS oc) (i + 1)
      by_cases hk : (c.secs.getD ((i : Nat) : Int).toNat default).k = 1
      · have e2 : idx (c.pP oc) (i + 1) = idx (c.pP oc) i ++ [(i : Int)] := idx_yes (by unfold Cfg.pP; rw [hm, decide_eq_true (show (c.secs.getD i default).k = 1 from hk)]; rfl)
        repeat first
          | (apply WL.q; exact rfl; exact rfl; exact rfl; (first | (apply EvW.move; exact rfl) | (apply EvW.fieldAddr0; exact rfl; exact FldC.eq) | (apply EvW.load; exact rfl; exact ScalC.eq; (focus ((repeat constructor); done)); exact rfl)))
          | refine WC.seq ?_ | refine WC.region ?_ | refine WL.nil ?_ | refine WE.next ?_ | refine WC.condT rfl ?_
        try refine WL.wanted rfl rfl rfl ?_
        (apply WL.buildSlice; exact rfl; exact UndC.eq; exact SzC.eq; exact ZvC.eq; exact rfl; exact rfl; exact rfl; ((focus ((repeat (first | exact Flat.nil | (apply Flat.one; (first | exact rfl | assumption)) | (apply Flat.cons; exact rfl; exact rfl))); done))); exact rfl; exact rfl; intro c1)
        try refine WL.wanted rfl rfl rfl ?_
        (apply WL.append; exact rfl; exact rfl; exact rfl; exact UndC.eq; exact SzC.eq; exact ByC.eq; exact ZvC.eq; exact rfl; (first | exact notInt_sl UndC.eq | exact notInt_st UndC.eq); exact rfl; (focus ((repeat constructor); done)))
        · exact adds_blk .head rfl rfl
        · (omega)
        intro a2
        refine WL.ownEq (cs' := (idx (c.pS oc) (i + 1)).map i64) (len' := (idx (c.pS oc) (i + 1)).length) .head (by rw [e1]; simp) (by rw [e1]; simp) ?_
        (first | refine WL.slOwn (v := a2) (by repeat constructor) ?_ | refine WC.slOwn (v := a2) (by repeat constructor) ?_)
        intro hc_a2 ho_a2
        repeat first
          | (apply WL.q; exact rfl; exact rfl; exact rfl; (first | (apply EvW.move; exact rfl) | (apply EvW.fieldAddr0; exact rfl; exact FldC.eq) | (apply EvW.load; exact rfl; exact ScalC.eq; (focus ((repeat constructor); done)); exact rfl) | (apply EvW.cmpT; exact rfl; exact rfl; exact rfl; omega)))
          | refine WC.seq ?_ | refine WC.region ?_ | refine WL.nil ?_ | refine WE.next ?_ | refine WC.condT rfl ?_ | (apply WL.store; exact rfl; exact rfl; (first | assumption | exact rfl); exact SzC.eq; (first | assumption | exact rfl); (focus ((repeat constructor); done)))
        try refine WL.wanted rfl rfl rfl ?_
        (apply WL.buildSlice; exact rfl; exact UndC.eq; exact SzC.eq; exact ZvC.eq; exact rfl; exact rfl; exact rfl; ((focus ((repeat (first | exact Flat.nil | (apply Flat.one; (first | exact rfl | assumption)) | (apply Flat.cons; exact rfl; exact rfl))); done))); exact rfl; exact rfl; intro c2)
        try refine WL.wanted rfl rfl rfl ?_
        (apply WL.append; exact rfl; exact rfl; exact rfl; exact UndC.eq; exact SzC.eq; exact ByC.eq; exact ZvC.eq; exact rfl; (first | exact notInt_sl UndC.eq | exact notInt_st UndC.eq); exact rfl; (focus ((repeat constructor); done)))
        · exact adds_blk .head rfl rfl
        · (omega)
        intro b2
        refine WL.ownEq (cs' := (idx (c.pP oc) (i + 1)).map i64) (len' := (idx (c.pP oc) (i + 1)).length) .head (by rw [e2]; simp) (by rw [e2]; simp) ?_
        (first | refine WL.slOwn (v := b2) (by repeat constructor) ?_ | refine WC.slOwn (v := b2) (by repeat constructor) ?_)
        intro hc_b2 ho_b2
        repeat first
          | (apply WL.q; exact rfl; exact rfl; exact rfl; (first | (apply EvW.move; exact rfl) | (apply EvW.fieldAddr0; exact rfl; exact FldC.eq) | (apply EvW.arN; exact rfl; exact rfl; exact rfl; refine i64_in ?_ ?_ <;> omega)))
          | refine WC.region ?_ | refine WL.nil ?_ | refine WE.next ?_ | refine WE.out ?_ | (apply WL.store; exact rfl; exact rfl; (first | assumption | exact rfl); exact SzC.eq; (first | assumption | exact rfl); (focus ((repeat constructor); done)))
        exact WE.again (s := (i, a, b)) ((i + 1, a2, b2)) (by simp only []; omega) (by (focus ((repeat (first | exact trivial | (refine ⟨rfl, ?_⟩))); done))) (fun _ h => (by (try simp only []); exact h.keep (by repeat constructor))) (by (try simp only []); omega)
      · have e2 : idx (c.pP oc) (i + 1) = idx (c.pP oc) i := idx_no (by unfold Cfg.pP; rw [decide_eq_false (show ¬ (c.secs.getD i default).k = 1 from hk), Bool.and_false])
        repeat first
          | (apply WL.q; exact rfl; exact rfl; exact rfl; (first | (apply EvW.move; exact rfl) | (apply EvW.fieldAddr0; exact rfl; exact FldC.eq) | (apply EvW.load; exact rfl; exact ScalC.eq; (focus ((repeat constructor); done)); exact rfl)))
          | refine WC.seq ?_ | refine WC.region ?_ | refine WL.nil ?_ | refine WE.next ?_ | refine WC.condT rfl ?_
        try refine WL.wanted rfl rfl rfl ?_
        (apply WL.buildSlice; exact rfl; exact UndC.eq; exact SzC.eq; exact ZvC.eq; exact rfl; exact rfl; exact rfl; ((focus ((repeat (first | exact Flat.nil | (apply Flat.one; (first | exact rfl | assumption)) | (apply Flat.cons; exact rfl; exact rfl))); done))); exact rfl; exact rfl; intro c1)
        try refine WL.wanted rfl rfl rfl ?_
        (apply WL.append; exact rfl; exact rfl; exact rfl; exact UndC.eq; exact SzC.eq; exact ByC.eq; exact ZvC.eq; exact rfl; (first | exact notInt_sl UndC.eq | exact notInt_st UndC.eq); exact rfl; (focus ((repeat constructor); done)))
        · exact adds_blk .head rfl rfl
        · (omega)
        intro a2
        refine WL.ownEq (cs' := (idx (c.pS oc) (i + 1)).map i64) (len' := (idx (c.pS oc) (i + 1)).length) .head (by rw [e1]; simp) (by rw [e1]; simp) ?_
        (first | refine WL.slOwn (v := a2) (by repeat constructor) ?_ | refine WC.slOwn (v := a2) (by repeat constructor) ?_)
        intro hc_a2 ho_a2
        repeat first
          | (apply WL.q; exact rfl; exact rfl; exact rfl; (first | (apply EvW.move; exact rfl) | (apply EvW.fieldAddr0; exact rfl; exact FldC.eq) | (apply EvW.load; exact rfl; exact ScalC.eq; (focus ((repeat constructor); done)); exact rfl) | (apply EvW.cmpF; exact rfl; exact rfl; exact rfl; omega) | (apply EvW.arN; exact rfl; exact rfl; exact rfl; refine i64_in ?_ ?_ <;> omega)))
          | refine WC.seq ?_ | refine WC.region ?_ | refine WL.nil ?_ | refine WE.next ?_ | refine WC.skip ?_ | refine WE.out ?_ | refine WC.condF rfl ?_ | (apply WL.store; exact rfl; exact rfl; (first | assumption | exact rfl); exact SzC.eq; (first | assumption | exact rfl); (focus ((repeat constructor); done)))
        exact WE.again (s := (i, a, b)) ((i + 1, a2, b)) (by simp only []; omega) (by (focus ((repeat (first | exact trivial | (refine ⟨rfl, ?_⟩))); done))) (fun _ h => (by (try simp only []); rw [e2]; exact h.keep (by repeat constructor))) (by (try simp only []); omega)
    · have hm : c.mine oc i = false := by simpa using hm
      rw [hm]
      have e1 : idx (c.pS oc) (i + 1) = idx (c.pS oc) i := idx_no hm
      have e2 : idx (c.pP oc) (i + 1) = idx (c.pP oc) i := idx_no (by unfold Cfg.pP; rw [hm, Bool.false_and])
      repeat first
        | (apply WL.q; exact rfl; exact rfl; exact rfl; (first | (apply EvW.move; exact rfl) | (apply EvW.arN; exact rfl; exact rfl; exact rfl; refine i64_in ?_ ?_ <;> omega)))
        | refine WC.region ?_ | refine WL.nil ?_ | refine WE.next ?_ | refine WC.skip ?_ | refine WE.out ?_ | refine WC.condF rfl ?_
      exact WE.again (s := (i, a, b)) ((i + 1, a, b)) (by simp only []; omega) (by (focus ((repeat (first | exact trivial | (refine ⟨rfl, ?_⟩))); done))) (fun _ h => (by (try simp only []); rw [e1, e2]; exact h.keep (by repeat constructor))) (by (try simp only []); omega)
  obtain rfl : i = c.secs.length := by omega
  rw [show idx (c.pS oc) c.secs.length = c.lS oc from rfl, show idx (c.pP oc) c.secs.length = c.lP oc from rfl]
  repeat first
    | (apply WL.q; exact rfl; exact rfl; exact rfl; (first | (apply EvW.move; exact rfl) | (apply EvW.fieldAddr0; exact rfl; exact FldC.eq) | (apply EvW.load; exact rfl; exact ScalC.eq; (focus ((repeat constructor); done)); exact rfl) | (apply EvW.cmpF; exact rfl; exact rfl; exact rfl; omega) | (apply EvW.lenRow; exact rfl; exact UndC.eq; assumption)))
    | refine WC.seq ?_ | refine WC.region ?_ | refine WL.nil ?_ | refine WE.next ?_ | refine WC.block ?_ | refine WC.exit ?_ | refine WE.pass ?_ | refine WE.hit ?_ | refine WC.condF rfl ?_
  refine WC.loopK (σ := Nat × Value) [2, 4, 5, 6, 42, 43] (fun s => [(44, i64 s.1)]) (fun s => [.own 3 1 (s.2) (idx (c.pC oc) s.1).length ((idx (c.pC oc) s.1).map i64), .own 3 1 (a) (c.lS oc).length ((c.lS oc).map i64), .own 3 1 (b) (c.lP oc).length ((c.lP oc).map i64), .own 3 1 (.slice none 0 0) 0 [], .blk hh #[a, b, s.2, .slice none 0 0] 51, .blk r #[.slice none 0 0, .slice none 0 0, .slice none 0 0, .slice none 0 0] 51, .blk q2 [i64 oc].toArray 3, .blk q1 (cfgC c).toArray 30]) (fun s => s.1 ≤ c.crs.length) (fun s => c.crs.length - s.1) (0, .slice none 0 0) (by (focus ((repeat (first | exact Pick.nil | (apply Pick.cons; exact rfl))); done))) (by (focus ((repeat (first | exact trivial | (refine ⟨rfl, ?_⟩))); done))) (fun _ h => h.keep (by repeat constructor)) (Nat.zero_le _) (fun s hs => ?_)
  obtain ⟨i, d⟩ := s
  simp only [List.cons_append, List.nil_append] at hs ⊢
  by_cases hlt2 : (i : Int) < c.crs.length
  · have hl1 := idx_le (c.pC oc) i
    have hl3 := idx_le (c.pC oc) (i + 1)
    repeat first
      | (apply WL.q; exact rfl; exact rfl; exact rfl; (first | (apply EvW.move; exact rfl) | (apply EvW.assign; exact rfl) | (apply EvW.cmpT; exact rfl; exact rfl; exact rfl; omega) | (apply EvW.idxRow; exact rfl; exact rfl; exact UndC.eq; exact SzC.eq; assumption; omega; omega) | (apply EvW.ldInt; exact rfl; exact ScalC.eq; assumption; omega)))
      | refine WC.seq ?_ | refine WC.region ?_ | refine WL.nil ?_ | refine WE.next ?_ | refine WC.block ?_ | refine WC.skip ?_ | refine WC.condT rfl ?_
    try refine WL.wanted rfl rfl rfl ?_
    apply WL.callV ([])
    · exact rfl
    · exact rfl
    · exact rfl
    · exact fun w => Try.call56 _ w
    · (focus ((repeat constructor); done))
    · exact fun w1 S1 hS1 hs1 ho1 => mine_spec c q1 q2 (c.crs.getD ((i : Nat) : Int).toNat 0) oc w1 S1 hS1 (h.down hs1) (ho1 _ _ (by repeat constructor)) (ho1 _ _ (by repeat constructor))
    rintro _ _ ⟨rfl, rfl⟩
    first | refine WL.app4 ?_ | refine WL.app3 ?_ | refine WL.app2 ?_ | refine WL.app1 ?_ | refine WL.app0 ?_ | skip
    by_cases hm : c.mine oc (c.crs.getD ((i : Nat) : Int).toNat 0) = true
    · rw [hm]
      have e1 : idx (c.pC oc) (i + 1) = idx (c.pC oc) i ++ [(i : Int)] := idx_yes hm
      repeat first
        | (apply WL.q; exact rfl; exact rfl; exact rfl; (first | (apply EvW.move; exact rfl) | (apply EvW.fieldAddr0; exact rfl; exact FldC.eq) | (apply EvW.load; exact rfl; exact ScalC.eq; (focus ((repeat constructor); done)); exact rfl)))
        | refine WC.region ?_ | refine WL.nil ?_ | refine WE.next ?_ | refine WC.condT rfl ?_
      try refine WL.wanted rfl rfl rfl ?_
      (apply WL.buildSlice; exact rfl; exact UndC.eq; exact SzC.eq; exact ZvC.eq; exact rfl; exact rfl; exact rfl; ((focus ((repeat (first | exact Flat.nil | (apply Flat.one; (first | exact rfl | assumption)) | (apply Flat.cons; exact rfl; exact rfl))); done))); exact rfl; exact rfl; intro c1)
      try refine WL.wanted rfl rfl rfl ?_
      (apply WL.append; exact rfl; exact rfl; exact rfl; exact UndC.eq; exact SzC.eq; exact ByC.eq; exact ZvC.eq; exact rfl; (first | exact notInt_sl UndC.eq | exact notInt_st UndC.eq); exact rfl; (focus ((repeat constructor); done)))
      · exact adds_blk .head rfl rfl
      · (omega)
      intro d2
      refine WL.ownEq (cs' := (idx (c.pC oc) (i + 1)).map i64) (len' := (idx (c.pC oc) (i + 1)).length) .head (by rw [e1]; simp) (by rw [e1]; simp) ?_
      (first | refine WL.slOwn (v := d2) (by repeat constructor) ?_ | refine WC.slOwn (v := d2) (by repeat constructor) ?_)
      intro hc_d2 ho_d2
      repeat first
        | (apply WL.q; exact rfl; exact rfl; exact rfl; (first | (apply EvW.move; exact rfl) | (apply EvW.fieldAddr0; exact rfl; exact FldC.eq) | (apply EvW.arN; exact rfl; exact rfl; exact rfl; refine i64_in ?_ ?_ <;> omega)))
        | refine WC.region ?_ | refine WL.nil ?_ | refine WE.next ?_ | refine WE.out ?_ | (apply WL.store; exact rfl; exact rfl; (first | assumption | exact rfl); exact SzC.eq; (first | assumption | exact rfl); (focus ((repeat constructor); done)))
      exact WE.again (s := (i, d)) ((i + 1, d2)) (by simp only []; omega) (by (focus ((repeat (first | exact trivial | (refine ⟨rfl, ?_⟩))); done))) (fun _ h => (by (try simp only []); exact h.keep (by repeat constructor))) (by (try simp only []); omega)
    · have hm : c.mine oc (c.crs.getD ((i : Nat) : Int).toNat 0) = false := by simpa using hm
      rw [hm]
      have e1 : idx (c.pC oc) (i + 1) = idx (c.pC oc) i := idx_no hm
      repeat first
        | (apply WL.q; exact rfl; exact rfl; exact rfl; (first | (apply EvW.move; exact rfl) | (apply EvW.arN; exact rfl; exact rfl; exact rfl; refine i64_in ?_ ?_ <;> omega)))
        | refine WC.region ?_ | refine WL.nil ?_ | refine WE.next ?_ | refine WC.skip ?_ | refine WE.out ?_ | refine WC.condF rfl ?_
      exact WE.again (s := (i, d)) ((i + 1, d)) (by simp only []; omega) (by (focus ((repeat (first | exact trivial | (refine ⟨rfl, ?_⟩))); done))) (fun _ h => (by (try simp only []); rw [e1]; exact h.keep (by repeat constructor))) (by (try simp only []); omega)
  obtain rfl : i = c.crs.length := by omega
  rw [show idx (c.pC oc) c.crs.length = c.lC oc from rfl]
  repeat first
    | (apply WL.q; exact rfl; exact rfl; exact rfl; (first | (apply EvW.move; exact rfl) | (apply EvW.fieldAddr0; exact rfl; exact FldC.eq) | (apply EvW.load; exact rfl; exact ScalC.eq; (focus ((repeat constructor); done)); exact rfl) | (apply EvW.cmpF; exact rfl; exact rfl; exact rfl; omega) | (apply EvW.lenRow; exact rfl; exact UndC.eq; assumption)))
    | refine WC.seq ?_ | refine WC.region ?_ | refine WL.nil ?_ | refine WE.next ?_ | refine WC.block ?_ | refine WC.exit ?_ | refine WE.pass ?_ | refine WE.hit ?_ | refine WC.condF rfl ?_
  refine WC.loopK (σ := Nat × Value) [4, 5, 6, 60, 61] (fun s => [(62, i64 s.1)]) (fun s => [.own 3 1 (s.2) (idx (c.pG oc) s.1).length ((idx (c.pG oc) s.1).map i64), .own 3 1 (a) (c.lS oc).length ((c.lS oc).map i64), .own 3 1 (b) (c.lP oc).length ((c.lP oc).map i64), .own 3 1 (d) (c.lC oc).length ((c.lC oc).map i64), .blk hh #[a, b, d, s.2] 51, .blk r #[.slice none 0 0, .slice none 0 0, .slice none 0 0, .slice none 0 0] 51, .blk q2 [i64 oc].toArray 3, .blk q1 (cfgC c).toArray 30]) (fun s => s.1 ≤ c.sigs.length) (fun s => c.sigs.length - s.1) (0, .slice none 0 0) (by (focus ((repeat (first | exact Pick.nil | (apply Pick.cons; exact rfl))); done))) (by (focus ((repeat (first | exact trivial | (refine ⟨rfl, ?_⟩))); done))) (fun _ h => h.keep (by repeat constructor)) (Nat.zero_le _) (fun s hs => ?_)
  obtain ⟨i, e⟩ := s
  simp only [List.cons_append, List.nil_append] at hs ⊢
  by_cases hlt3 : (i : Int) < c.sigs.length
  · have hl1 := idx_le (c.pG oc) i
    have hl3 := idx_le (c.pG oc) (i + 1)
    repeat first
      | (apply WL.q; exact rfl; exact rfl; exact rfl; (first | (apply EvW.move; exact rfl) | (apply EvW.cmpT; exact rfl; exact rfl; exact rfl; omega) | (apply EvW.idxRow; exact rfl; exact rfl; exact UndC.eq; exact SzC.eq; assumption; omega; omega)))
      | refine WC.seq ?_ | refine WC.region ?_ | refine WL.nil ?_ | refine WE.next ?_ | refine WC.block ?_ | refine WC.skip ?_ | refine WC.condT rfl ?_
    (apply WL.q; exact rfl; exact rfl; exact rfl; (apply EvW.ldElem (xs := c.sigs) (z := (default : Sig)) (f := sigC); exact rfl; exact AggC.eq; exact SzC.eq; exact rfl; exact fun _ => rfl; assumption; omega))
    try refine WL.wanted rfl rfl rfl ?_
    (apply WL.alloc; exact rfl; exact ZvC.eq; exact rfl; intro x)
    repeat first
      | (apply WL.q; exact rfl; exact rfl; exact rfl; (first | (apply EvW.move; exact rfl) | (apply EvW.assign; exact rfl) | (apply EvW.fieldAddr0; exact rfl; exact FldC.eq) | (apply EvW.load; exact rfl; exact ScalC.eq; (focus ((repeat constructor); done)); exact rfl)))
      | refine WC.seq ?_ | refine WC.region ?_ | refine WL.nil ?_ | refine WE.next ?_ | (apply WL.store; exact rfl; exact rfl; (first | assumption | exact rfl); exact SzC.eq; (first | assumption | exact rfl); (focus ((repeat constructor); done)))
    try refine WL.wanted rfl rfl rfl ?_
    apply WL.callV ([])
    · exact rfl
    · exact rfl
    · exact rfl
    · exact fun w => Try.call56 _ w
    · (focus ((repeat constructor); done))
    · exact fun w1 S1 hS1 hs1 ho1 => mine_spec c q1 q2 ((c.sigs.getD ((i : Nat) : Int).toNat default).s) oc w1 S1 hS1 (h.down hs1) (ho1 _ _ (by repeat constructor)) (ho1 _ _ (by repeat constructor))
    rintro _ _ ⟨rfl, rfl⟩
    first | refine WL.app4 ?_ | refine WL.app3 ?_ | refine WL.app2 ?_ | refine WL.app1 ?_ | refine WL.app0 ?_ | skip
    by_cases hm : c.mine oc (c.sigs.getD ((i : Nat) : Int).toNat default).s = true
    · rw [hm]
      have e1 : idx (c.pG oc) (i + 1) = idx (c.pG oc) i ++ [(i : Int)] := idx_yes hm
      repeat first
        | (apply WL.q; exact rfl; exact rfl; exact rfl; (first | (apply EvW.move; exact rfl) | (apply EvW.fieldAddr0; exact rfl; exact FldC.eq) | (apply EvW.load; exact rfl; exact ScalC.eq; (focus ((repeat constructor); done)); exact rfl)))
        | refine WC.region ?_ | refine WL.nil ?_ | refine WE.next ?_ | refine WC.condT rfl ?_
      try refine WL.wanted rfl rfl rfl ?_
      (apply WL.buildSlice; exact rfl; exact UndC.eq; exact SzC.eq; exact ZvC.eq; exact rfl; exact rfl; exact rfl; ((focus ((repeat (first | exact Flat.nil | (apply Flat.one; (first | exact rfl | assumption)) | (apply Flat.cons; exact rfl; exact rfl))); done))); exact rfl; exact rfl; intro c1)
      try refine WL.wanted rfl rfl rfl ?_
      (apply WL.append; exact rfl; exact rfl; exact rfl; exact UndC.eq; exact SzC.eq; exact ByC.eq; exact ZvC.eq; exact rfl; (first | exact notInt_sl UndC.eq | exact notInt_st UndC.eq); exact rfl; (focus ((repeat constructor); done)))
      · exact adds_blk .head rfl rfl
      · (omega)
      intro e2
      refine WL.ownEq (cs' := (idx (c.pG oc) (i + 1)).map i64) (len' := (idx (c.pG oc) (i + 1)).length) .head (by rw [e1]; simp) (by rw [e1]; simp) ?_
      (first | refine WL.slOwn (v := e2) (by repeat constructor) ?_ | refine WC.slOwn (v := e2) (by repeat constructor) ?_)
      intro hc_e2 ho_e2
      repeat first
        | (apply WL.q; exact rfl; exact rfl; exact rfl; (first | (apply EvW.move; exact rfl) | (apply EvW.fieldAddr0; exact rfl; exact FldC.eq) | (apply EvW.arN; exact rfl; exact rfl; exact rfl; refine i64_in ?_ ?_ <;> omega)))
        | refine WC.region ?_ | refine WL.nil ?_ | refine WE.next ?_ | refine WE.out ?_ | (apply WL.store; exact rfl; exact rfl; (first | assumption | exact rfl); exact SzC.eq; (first | assumption | exact rfl); (focus ((repeat constructor); done)))
      exact WE.again (s := (i, e)) ((i + 1, e2)) (by simp only []; omega) (by (focus ((repeat (first | exact trivial | (refine ⟨rfl, ?_⟩))); done))) (fun _ h => (by (try simp only []); exact h.keep (by repeat constructor))) (by (try simp only []); omega)
    · have hm : c.mine oc (c.sigs.getD ((i : Nat) : Int).toNat default).s = false := by simpa using hm
      rw [hm]
      have e1 : idx (c.pG oc) (i + 1) = idx (c.pG oc) i := idx_no hm
      repeat first
        | (apply WL.q; exact rfl; exact rfl; exact rfl; (first | (apply EvW.move; exact rfl) | (apply EvW.arN; exact rfl; exact rfl; exact rfl; refine i64_in ?_ ?_ <;> omega)))
        | refine WC.region ?_ | refine WL.nil ?_ | refine WE.next ?_ | refine WC.skip ?_ | refine WE.out ?_ | refine WC.condF rfl ?_
      exact WE.again (s := (i, e)) ((i + 1, e)) (by simp only []; omega) (by (focus ((repeat (first | exact trivial | (refine ⟨rfl, ?_⟩))); done))) (fun _ h => (by (try simp only []); rw [e1]; exact h.keep (by repeat constructor))) (by (try simp only []); omega)
  obtain rfl : i = c.sigs.length := by omega
  rw [show idx (c.pG oc) c.sigs.length = c.lG oc from rfl]
  (first | refine WL.slOwn (v := a) (by repeat constructor) ?_ | refine WC.slOwn (v := a) (by repeat constructor) ?_)
  intro hc_a ho_a
  (first | refine WL.slOwn (v := b) (by repeat constructor) ?_ | refine WC.slOwn (v := b) (by repeat constructor) ?_)
  intro hc_b ho_b
  (first | refine WL.slOwn (v := d) (by repeat constructor) ?_ | refine WC.slOwn (v := d) (by repeat constructor) ?_)
  intro hc_d ho_d
  (first | refine WL.slOwn (v := e) (by repeat constructor) ?_ | refine WC.slOwn (v := e) (by repeat constructor) ?_)
  intro hc_e ho_e
  have hall : ([a, b, d, e] : List Value).all (·.oneCell') = true := by
    simp at ho_a ho_b ho_d ho_e
    simp [ho_a, ho_b, ho_d, ho_e]
  clear hc_a hc_b hc_d hc_e ho_a ho_b ho_d ho_e
  repeat first
    | (apply WL.q; exact rfl; exact rfl; exact rfl; (first | (apply EvW.cmpF; exact rfl; exact rfl; exact rfl; omega) | (apply EvW.loadAgg; exact rfl; exact AggC.eq; exact SzC.eq; (focus ((repeat constructor); done)); (focus ((repeat (first | exact SubL.nil | apply SubL.cons | apply SubL.succ)); done)))))
    | refine WC.seq ?_ | refine WC.region ?_ | refine WL.nil ?_ | refine WE.next ?_ | refine WC.exit ?_ | refine WE.pass ?_ | refine WE.hit ?_ | refine WC.condF rfl ?_ | refine WC.ret ?_ | (apply WL.store; exact rfl; exact rfl; (first | assumption | exact rfl); exact SzC.eq; (first | assumption | exact rfl); (focus ((repeat constructor); done)))
  (apply WE.retC (A' := [.own 3 1 (a) (c.lS oc).length ((c.lS oc).map i64), .own 3 1 (b) (c.lP oc).length ((c.lP oc).map i64), .own 3 1 (d) (c.lC oc).length ((c.lC oc).map i64), .own 3 1 (e) (c.lG oc).length ((c.lG oc).map i64)]); exact rfl; exact rfl; (focus ((repeat constructor); done)); exact AggC.eq; exact SzC.eq; exact fun _ h => h.keep (by repeat constructor))
  exact ⟨a, b, d, e, rfl, rfl⟩
end Go.Proofs.Ytamofjpadnnppaa
namespace Go.Proofs.Ytamofjpadnnppaa
open Go.RowKit Go.BK
theorem of_spec (c : Cfg) (s oc : Int) (w : World) (S : BSet) (hS : (sepL []).sat S w) (h : c.Seen w S) :
    Tri Try.prog 39 #[.agg (cfgC c).toArray, i64 s, i64 oc] w S fun u A => u = .bool (c.mine oc s) ∧ A = [] := by
  refine Tri.enter (l := [.agg (cfgC c).toArray, i64 s, i64 oc]) Try.func39 rfl Try.ntmps39 rfl [(0, .agg (cfgC c).toArray), (1, i64 s), (2, i64 oc)] (subA rfl) hS ?_
  have hsec := h.secs
  have hm : c.mine oc s = (decide (0 ≤ s) && decide (s < c.secs.length) && decide ((c.secs.getD s.toNat default).oc = oc)) := rfl
  rw [hm]
  by_cases h0 : 0 ≤ s
  · by_cases hl : s < c.secs.length
    · rw [decide_eq_true h0, decide_eq_true hl, Bool.true_and, Bool.true_and]
      repeat first
        | refine WC.seq ?_ | refine WC.region ?_
      try refine WL.wanted rfl rfl rfl ?_
      (apply WL.box; exact rfl; exact rfl; exact rfl; intro q)
      repeat first
        | (apply WL.q; exact rfl; exact rfl; exact rfl; (first | (apply EvW.move; exact rfl) | (apply EvW.assign; exact rfl) | (apply EvW.fieldAddr0; exact rfl; exact FldC.eq) | (apply EvW.load; exact rfl; exact ScalC.eq; (focus ((repeat constructor); done)); exact rfl) | (apply EvW.ldFld; exact rfl; exact ScalC.eq; assumption; exact fun _ => rfl; omega; exact rfl; exact inferInstance) | (apply EvW.cmpT; exact rfl; exact rfl; exact rfl; omega) | (apply EvW.cmp; exact rfl; exact rfl; exact rfl) | (apply EvW.pickT; exact rfl; exact rfl) | (apply EvW.lenRow; exact rfl; exact UndC.eq; assumption) | (apply EvW.idxRow; exact rfl; exact rfl; exact UndC.eq; exact SzC.eq; assumption; omega; omega) | (apply EvW.fldRow; exact rfl; exact FldC.eq; assumption; omega)))
        | refine WC.seq ?_ | refine WC.region ?_ | refine WL.nil ?_ | refine WE.next ?_ | refine WC.ret ?_ | refine WL.wanted rfl rfl rfl ?_
      refine WE.bare ?_
      refine WE.ret1 rfl rfl ?_
      exact ⟨rfl, rfl⟩
    · rw [decide_eq_true h0, decide_eq_false hl]
      repeat first
        | refine WC.seq ?_ | refine WC.region ?_
      try refine WL.wanted rfl rfl rfl ?_
      (apply WL.box; exact rfl; exact rfl; exact rfl; intro q)
      repeat first
        | (apply WL.q; exact rfl; exact rfl; exact rfl; (first | (apply EvW.move; exact rfl) | (apply EvW.assign; exact rfl) | (apply EvW.fieldAddr0; exact rfl; exact FldC.eq) | (apply EvW.load; exact rfl; exact ScalC.eq; (focus ((repeat constructor); done)); exact rfl) | (apply EvW.cmpT; exact rfl; exact rfl; exact rfl; omega) | (apply EvW.cmpF; exact rfl; exact rfl; exact rfl; omega) | (apply EvW.pickT; exact rfl; exact rfl) | (apply EvW.pickF; exact rfl; exact rfl) | (apply EvW.lenRow; exact rfl; exact UndC.eq; assumption)))
        | refine WC.seq ?_ | refine WC.region ?_ | refine WL.nil ?_ | refine WE.next ?_ | refine WC.ret ?_ | refine WL.wanted rfl rfl rfl ?_ | refine WL.unwanted rfl rfl rfl rfl ?_
      refine WE.bare ?_
      refine WE.ret1 rfl rfl ?_
      exact ⟨rfl, rfl⟩
  · rw [decide_eq_false h0]
    repeat first
      | refine WC.seq ?_ | refine WC.region ?_
    try refine WL.wanted rfl rfl rfl ?_
    (apply WL.box; exact rfl; exact rfl; exact rfl; intro q)
    repeat first
      | (apply WL.q; exact rfl; exact rfl; exact rfl; (first | (apply EvW.move; exact rfl) | (apply EvW.assign; exact rfl) | (apply EvW.cmpF; exact rfl; exact rfl; exact rfl; omega) | (apply EvW.pickF; exact rfl; exact rfl)))
      | refine WC.seq ?_ | refine WC.region ?_ | refine WL.nil ?_ | refine WE.next ?_ | refine WC.ret ?_ | refine WL.unwanted rfl rfl rfl rfl ?_
    refine WE.bare ?_
    refine WE.ret1 rfl rfl ?_
    exact ⟨rfl, rfl⟩
theorem mine_at (c : Cfg) (oc : Int) (i : Nat) (h : i < c.secs.length) : c.mine oc i = decide ((c.secs.getD i default).oc = oc) := by
  unfold Cfg.mine
  rw [decide_eq_true (show (0 : Int) ≤ i by omega), decide_eq_true (show (i : Int) < c.secs.length by omega)]
  rfl
theorem rshape_spec (c : Cfg) (oc : Int) (w : World) (S : BSet) (hS : (sepL []).sat S w) (h : c.Seen w S) :
    Tri Try.prog 12 #[.agg (cfgC c).toArray, i64 oc] w S fun u A => ∃ a b d e, u = .agg #[a, b, d, e] ∧ A = [.own 3 1 (a) (c.lS oc).length ((c.lS oc).map i64), .own 3 1 (b) (c.lP oc).length ((c.lP oc).map i64), .own 3 1 (d) (c.lC oc).length ((c.lC oc).map i64), .own 3 1 (e) (c.lG oc).length ((c.lG oc).map i64)] := by
  refine Tri.enter (l := [.agg (cfgC c).toArray, i64 oc]) Try.func12 rfl Try.ntmps12 rfl [(0, .agg (cfgC c).toArray), (1, i64 oc)] (subA rfl) hS ?_
  have hsec := h.secs
  have hsig := h.sigs
  have hcrs := h.crs
  have hnS := h.nS
  have hnG := h.nG
  have hnC := h.nC
  repeat first
    | refine WC.seq ?_ | refine WC.region ?_
  try refine WL.wanted rfl rfl rfl ?_
  (apply WL.box; exact rfl; exact rfl; exact rfl; intro q1)
  skip
  try refine WL.wanted rfl rfl rfl ?_
  (apply WL.alloc; exact rfl; exact ZvC.eq; exact rfl; intro r)
  repeat first
    | refine WC.seq ?_ | refine WC.region ?_ | refine WL.nil ?_ | refine WE.next ?_
  try refine WL.wanted rfl rfl rfl ?_
  (apply WL.alloc; exact rfl; exact ZvC.eq; exact rfl; intro hh)
  repeat first
    | (apply WL.q; exact rfl; exact rfl; exact rfl; (first | (apply EvW.move; exact rfl) | (apply EvW.fieldAddr0; exact rfl; exact FldC.eq) | (apply EvW.load; exact rfl; exact ScalC.eq; (focus ((repeat constructor); done)); exact rfl) | (apply EvW.lenRow; exact rfl; exact UndC.eq; assumption)))
    | refine WC.seq ?_ | refine WC.region ?_ | refine WL.nil ?_ | refine WE.next ?_ | refine WC.block ?_
  refine WC.ownNil 3 1 ?_
  refine WC.ownNil 3 1 ?_
  refine WC.ownNil 3 1 ?_
  refine WC.ownNil 3 1 ?_
  refine WC.loopK (σ := Nat × Value × Value) [1, 2, 4, 5, 13, 14] (fun s => [(15, i64 s.1)]) (fun s => [.own 3 1 (s.2.1) (idx (c.pS oc) s.1).length ((idx (c.pS oc) s.1).map i64), .own 3 1 (s.2.2) (idx (c.pP oc) s.1).length ((idx (c.pP oc) s.1).map i64), .own 3 1 (.slice none 0 0) 0 [], .own 3 1 (.slice none 0 0) 0 [], .blk hh #[s.2.1, s.2.2, .slice none 0 0, .slice none 0 0] 51, .blk r #[.slice none 0 0, .slice none 0 0, .slice none 0 0, .slice none 0 0] 51, .blk q1 (cfgC c).toArray 30]) (fun s => s.1 ≤ c.secs.length) (fun s => c.secs.length - s.1) (0, .slice none 0 0, .slice none 0 0) (by (focus ((repeat (first | exact Pick.nil | (apply Pick.cons; exact rfl))); done))) (by (focus ((repeat (first | exact trivial | (refine ⟨rfl, ?_⟩))); done))) (fun _ h => h.keep (by repeat constructor)) (Nat.zero_le _) (fun s hs => ?_)
  obtain ⟨i, a, b⟩ := s
  simp only [List.cons_append, List.nil_append] at hs ⊢
  by_cases hlt : (i : Int) < c.secs.length
  · have hl1 := idx_le (c.pS oc) i
    have hl2 := idx_le (c.pP oc) i
    repeat first
      | (apply WL.q; exact rfl; exact rfl; exact rfl; (first | (apply EvW.move; exact rfl) | (apply EvW.cmpT; exact rfl; exact rfl; exact rfl; omega) | (apply EvW.idxRow; exact rfl; exact rfl; exact UndC.eq; exact SzC.eq; assumption; omega; omega)))
      | refine WC.seq ?_ | refine WC.region ?_ | refine WL.nil ?_ | refine WE.next ?_ | refine WC.block ?_ | refine WC.skip ?_ | refine WC.condT rfl ?_
    (apply WL.q; exact rfl; exact rfl; exact rfl; (apply EvW.ldElem (xs := c.secs) (z := (default : Sec)) (f := secC); exact rfl; exact AggC.eq; exact SzC.eq; exact rfl; exact fun _ => rfl; assumption; omega))
    try refine WL.wanted rfl rfl rfl ?_
    (apply WL.alloc; exact rfl; exact ZvC.eq; exact rfl; intro x)
    have hma := mine_at c oc i (by omega)
    by_cases hm : c.mine oc i = true
    · have hoc : (c.secs.getD ((i : Nat) : Int).toNat default).oc = oc := by rw [hm] at hma; exact of_decide_eq_true hma.symm
      have e1 : idx (c.pS oc) (i + 1) = idx (c.pS oc) i ++ [(i : Int)] := idx_yes hm
      have hl3 := idx_le (c.pS oc) (i + 1)
      by_cases hk : (c.secs.getD ((i : Nat) : Int).toNat default).k = 1
      · have e2 : idx (c.pP oc) (i + 1) = idx (c.pP oc) i ++ [(i : Int)] := idx_yes (by unfold Cfg.pP; rw [hm, decide_eq_true (show (c.secs.getD i default).k = 1 from hk)]; rfl)
        repeat first
          | (apply WL.q; exact rfl; exact rfl; exact rfl; (first | (apply EvW.move; exact rfl) | (apply EvW.assign; exact rfl) | (apply EvW.fieldAddr0; exact rfl; exact FldC.eq) | (apply EvW.load; exact rfl; exact ScalC.eq; (focus ((repeat constructor); done)); exact rfl) | (apply EvW.cmpF; exact rfl; exact rfl; exact rfl; omega)))
          | refine WC.seq ?_ | refine WC.region ?_ | refine WL.nil ?_ | refine WE.next ?_ | refine WC.skip ?_ | refine WC.condF rfl ?_ | (apply WL.store; exact rfl; exact rfl; (first | assumption | exact rfl); exact SzC.eq; (first | assumption | exact rfl); (focus ((repeat constructor); done)))
        try refine WL.wanted rfl rfl rfl ?_
        (apply WL.buildSlice; exact rfl; exact UndC.eq; exact SzC.eq; exact ZvC.eq; exact rfl; exact rfl; exact rfl; ((focus ((repeat (first | exact Flat.nil | (apply Flat.one; (first | exact rfl | assumption)) | (apply Flat.cons; exact rfl; exact rfl))); done))); exact rfl; exact rfl; intro c1)
        try refine WL.wanted rfl rfl rfl ?_
        (apply WL.append; exact rfl; exact rfl; exact rfl; exact UndC.eq; exact SzC.eq; exact ByC.eq; exact ZvC.eq; exact rfl; (first | exact notInt_sl UndC.eq | exact notInt_st UndC.eq); exact rfl; (focus ((repeat constructor); done)))
        · exact adds_blk .head rfl rfl
        · (omega)
        intro a2
        refine WL.ownEq (cs' := (idx (c.pS oc) (i + 1)).map i64) (len' := (idx (c.pS oc) (i + 1)).length) .head (by rw [e1]; simp) (by rw [e1]; simp) ?_
        (first | refine WL.slOwn (v := a2) (by repeat constructor) ?_ | refine WC.slOwn (v := a2) (by repeat constructor) ?_)
        intro hc_a2 ho_a2
        repeat first
          | (apply WL.q; exact rfl; exact rfl; exact rfl; (first | (apply EvW.move; exact rfl) | (apply EvW.fieldAddr0; exact rfl; exact FldC.eq) | (apply EvW.load; exact rfl; exact ScalC.eq; (focus ((repeat constructor); done)); exact rfl) | (apply EvW.cmpT; exact rfl; exact rfl; exact rfl; omega)))
          | refine WC.seq ?_ | refine WC.region ?_ | refine WL.nil ?_ | refine WE.next ?_ | refine WC.condT rfl ?_ | (apply WL.store; exact rfl; exact rfl; (first | assumption | exact rfl); exact SzC.eq; (first | assumption | exact rfl); (focus ((repeat constructor); done)))
        try refine WL.wanted rfl rfl rfl ?_
        (apply WL.buildSlice; exact rfl; exact UndC.eq; exact SzC.eq; exact ZvC.eq; exact rfl; exact rfl; exact rfl; ((focus ((repeat (first | exact Flat.nil | (apply Flat.one; (first | exact rfl | assumption)) | (apply Flat.cons; exact rfl; exact rfl))); done))); exact rfl; exact rfl; intro c2)
        try refine WL.wanted rfl rfl rfl ?_
        (apply WL.append; exact rfl; exact rfl; exact rfl; exact UndC.eq; exact SzC.eq; exact ByC.eq; exact ZvC.eq; exact rfl; (first | exact notInt_sl UndC.eq | exact notInt_st UndC.eq); exact rfl; (focus ((repeat constructor); done)))
        · exact adds_blk .head rfl rfl
        · (omega)
        intro b2
        refine WL.ownEq (cs' := (idx (c.pP oc) (i + 1)).map i64) (len' := (idx (c.pP oc) (i + 1)).length) .head (by rw [e2]; simp) (by rw [e2]; simp) ?_
        (first | refine WL.slOwn (v := b2) (by repeat constructor) ?_ | refine WC.slOwn (v := b2) (by repeat constructor) ?_)
        intro hc_b2 ho_b2
        repeat first
          | (apply WL.q; exact rfl; exact rfl; exact rfl; (first | (apply EvW.move; exact rfl) | (apply EvW.fieldAddr0; exact rfl; exact FldC.eq) | (apply EvW.arN; exact rfl; exact rfl; exact rfl; refine i64_in ?_ ?_ <;> omega)))
          | refine WC.region ?_ | refine WL.nil ?_ | refine WE.next ?_ | refine WE.out ?_ | (apply WL.store; exact rfl; exact rfl; (first | assumption | exact rfl); exact SzC.eq; (first | assumption | exact rfl); (focus ((repeat constructor); done)))
        exact WE.again (s := (i, a, b)) ((i + 1, a2, b2)) (by simp only []; omega) (by (focus ((repeat (first | exact trivial | (refine ⟨rfl, ?_⟩))); done))) (fun _ h => (by (try simp only []); exact h.keep (by repeat constructor))) (by (try simp only []); omega)
      · have e2 : idx (c.pP oc) (i + 1) = idx (c.pP oc) i := idx_no (by unfold Cfg.pP; rw [decide_eq_false (show ¬ (c.secs.getD i default).k = 1 from hk), Bool.and_false])
        repeat first
          | (apply WL.q; exact rfl; exact rfl; exact rfl; (first | (apply EvW.move; exact rfl) | (apply EvW.assign; exact rfl) | (apply EvW.fieldAddr0; exact rfl; exact FldC.eq) | (apply EvW.load; exact rfl; exact ScalC.eq; (focus ((repeat constructor); done)); exact rfl) | (apply EvW.cmpF; exact rfl; exact rfl; exact rfl; omega)))
          | refine WC.seq ?_ | refine WC.region ?_ | refine WL.nil ?_ | refine WE.next ?_ | refine WC.skip ?_ | refine WC.condF rfl ?_ | (apply WL.store; exact rfl; exact rfl; (first | assumption | exact rfl); exact SzC.eq; (first | assumption | exact rfl); (focus ((repeat constructor); done)))
        try refine WL.wanted rfl rfl rfl ?_
        (apply WL.buildSlice; exact rfl; exact UndC.eq; exact SzC.eq; exact ZvC.eq; exact rfl; exact rfl; exact rfl; ((focus ((repeat (first | exact Flat.nil | (apply Flat.one; (first | exact rfl | assumption)) | (apply Flat.cons; exact rfl; exact rfl))); done))); exact rfl; exact rfl; intro c1)
        try refine WL.wanted rfl rfl rfl ?_
        (apply WL.append; exact rfl; exact rfl; exact rfl; exact UndC.eq; exact SzC.eq; exact ByC.eq; exact ZvC.eq; exact rfl; (first | exact notInt_sl UndC.eq | exact notInt_st UndC.eq); exact rfl; (focus ((repeat constructor); done)))
        · exact adds_blk .head rfl rfl
        · (omega)
        intro a2
        refine WL.ownEq (cs' := (idx (c.pS oc) (i + 1)).map i64) (len' := (idx (c.pS oc) (i + 1)).length) .head (by rw [e1]; simp) (by rw [e1]; simp) ?_
        (first | refine WL.slOwn (v := a2) (by repeat constructor) ?_ | refine WC.slOwn (v := a2) (by repeat constructor) ?_)
        intro hc_a2 ho_a2
        repeat first
          | (apply WL.q; exact rfl; exact rfl; exact rfl; (first | (apply EvW.move; exact rfl) | (apply EvW.fieldAddr0; exact rfl; exact FldC.eq) | (apply EvW.load; exact rfl; exact ScalC.eq; (focus ((repeat constructor); done)); exact rfl) | (apply EvW.cmpF; exact rfl; exact rfl; exact rfl; omega) | (apply EvW.arN; exact rfl; exact rfl; exact rfl; refine i64_in ?_ ?_ <;> omega)))
          | refine WC.seq ?_ | refine WC.region ?_ | refine WL.nil ?_ | refine WE.next ?_ | refine WC.skip ?_ | refine WE.out ?_ | refine WC.condF rfl ?_ | (apply WL.store; exact rfl; exact rfl; (first | assumption | exact rfl); exact SzC.eq; (first | assumption | exact rfl); (focus ((repeat constructor); done)))
        exact WE.again (s := (i, a, b)) ((i + 1, a2, b)) (by simp only []; omega) (by (focus ((repeat (first | exact trivial | (refine ⟨rfl, ?_⟩))); done))) (fun _ h => (by (try simp only []); rw [e2]; exact h.keep (by repeat constructor))) (by (try simp only []); omega)
    · have hm : c.mine oc i = false := by simpa using hm
      have hoc : ¬ (c.secs.getD ((i : Nat) : Int).toNat default).oc = oc := by rw [hm] at hma; exact of_decide_eq_false hma.symm
      have e1 : idx (c.pS oc) (i + 1) = idx (c.pS oc) i := idx_no hm
      have e2 : idx (c.pP oc) (i + 1) = idx (c.pP oc) i := idx_no (by unfold Cfg.pP; rw [hm, Bool.false_and])
      repeat first
        | (apply WL.q; exact rfl; exact rfl; exact rfl; (first | (apply EvW.move; exact rfl) | (apply EvW.assign; exact rfl) | (apply EvW.fieldAddr0; exact rfl; exact FldC.eq) | (apply EvW.load; exact rfl; exact ScalC.eq; (focus ((repeat constructor); done)); exact rfl) | (apply EvW.cmpT; exact rfl; exact rfl; exact rfl; omega) | (apply EvW.arN; exact rfl; exact rfl; exact rfl; refine i64_in ?_ ?_ <;> omega)))
        | refine WC.seq ?_ | refine WC.region ?_ | refine WL.nil ?_ | refine WE.next ?_ | refine WC.exit ?_ | refine WE.pass ?_ | refine WE.hit ?_ | refine WC.condT rfl ?_ | (apply WL.store; exact rfl; exact rfl; (first | assumption | exact rfl); exact SzC.eq; (first | assumption | exact rfl); (focus ((repeat constructor); done)))
      exact WE.again (s := (i, a, b)) ((i + 1, a, b)) (by simp only []; omega) (by (focus ((repeat (first | exact trivial | (refine ⟨rfl, ?_⟩))); done))) (fun _ h => (by (try simp only []); rw [e1, e2]; exact h.keep (by repeat constructor))) (by (try simp only []); omega)
  obtain rfl : i = c.secs.length := by omega
  rw [show idx (c.pS oc) c.secs.length = c.lS oc from rfl, show idx (c.pP oc) c.secs.length = c.lP oc from rfl]
  repeat first
    | (apply WL.q; exact rfl; exact rfl; exact rfl; (first | (apply EvW.move; exact rfl) | (apply EvW.fieldAddr0; exact rfl; exact FldC.eq) | (apply EvW.load; exact rfl; exact ScalC.eq; (focus ((repeat constructor); done)); exact rfl) | (apply EvW.cmpF; exact rfl; exact rfl; exact rfl; omega) | (apply EvW.lenRow; exact rfl; exact UndC.eq; assumption)))
    | refine WC.seq ?_ | refine WC.region ?_ | refine WL.nil ?_ | refine WE.next ?_ | refine WC.block ?_ | refine WC.exit ?_ | refine WE.pass ?_ | refine WE.hit ?_ | refine WC.condF rfl ?_
  refine WC.loopK (σ := Nat × Value) [1, 2, 4, 5, 41, 42] (fun s => [(43, i64 s.1)]) (fun s => [.own 3 1 (s.2) (idx (c.pC oc) s.1).length ((idx (c.pC oc) s.1).map i64), .own 3 1 (a) (c.lS oc).length ((c.lS oc).map i64), .own 3 1 (b) (c.lP oc).length ((c.lP oc).map i64), .own 3 1 (.slice none 0 0) 0 [], .blk hh #[a, b, s.2, .slice none 0 0] 51, .blk r #[.slice none 0 0, .slice none 0 0, .slice none 0 0, .slice none 0 0] 51, .blk q1 (cfgC c).toArray 30]) (fun s => s.1 ≤ c.crs.length) (fun s => c.crs.length - s.1) (0, .slice none 0 0) (by (focus ((repeat (first | exact Pick.nil | (apply Pick.cons; exact rfl))); done))) (by (focus ((repeat (first | exact trivial | (refine ⟨rfl, ?_⟩))); done))) (fun _ h => h.keep (by repeat constructor)) (Nat.zero_le _) (fun s hs => ?_)
  obtain ⟨i, d⟩ := s
  simp only [List.cons_append, List.nil_append] at hs ⊢
  by_cases hlt2 : (i : Int) < c.crs.length
  · have hl1 := idx_le (c.pC oc) i
    have hl3 := idx_le (c.pC oc) (i + 1)
    repeat first
      | (apply WL.q; exact rfl; exact rfl; exact rfl; (first | (apply EvW.move; exact rfl) | (apply EvW.assign; exact rfl) | (apply EvW.cmpT; exact rfl; exact rfl; exact rfl; omega) | (apply EvW.loadAgg; exact rfl; exact AggC.eq; exact SzC.eq; (focus ((repeat constructor); done)); (focus ((repeat (first | exact SubL.nil | apply SubL.cons | apply SubL.succ)); done))) | (apply EvW.idxRow; exact rfl; exact rfl; exact UndC.eq; exact SzC.eq; assumption; omega; omega) | (apply EvW.ldInt; exact rfl; exact ScalC.eq; assumption; omega)))
      | refine WC.seq ?_ | refine WC.region ?_ | refine WL.nil ?_ | refine WE.next ?_ | refine WC.block ?_ | refine WC.skip ?_ | refine WC.condT rfl ?_
    try refine WL.wanted rfl rfl rfl ?_
    apply WL.callA ([])
    · exact rfl
    · exact rfl
    · exact fun w => Try.call39 _ w
    · (focus ((repeat constructor); done))
    · exact fun w1 S1 hS1 hs1 ho1 => of_spec c (c.crs.getD ((i : Nat) : Int).toNat 0) oc w1 S1 hS1 (h.down hs1)
    rintro _ _ ⟨rfl, rfl⟩
    first | refine WL.app4 ?_ | refine WL.app3 ?_ | refine WL.app2 ?_ | refine WL.app1 ?_ | refine WL.app0 ?_ | skip
    by_cases hm : c.mine oc (c.crs.getD ((i : Nat) : Int).toNat 0) = true
    · rw [hm]
      have e1 : idx (c.pC oc) (i + 1) = idx (c.pC oc) i ++ [(i : Int)] := idx_yes hm
      repeat first
        | (apply WL.q; exact rfl; exact rfl; exact rfl; (first | (apply EvW.move; exact rfl) | (apply EvW.fieldAddr0; exact rfl; exact FldC.eq) | (apply EvW.load; exact rfl; exact ScalC.eq; (focus ((repeat constructor); done)); exact rfl)))
        | refine WC.region ?_ | refine WL.nil ?_ | refine WE.next ?_ | refine WC.condT rfl ?_
      try refine WL.wanted rfl rfl rfl ?_
      (apply WL.buildSlice; exact rfl; exact UndC.eq; exact SzC.eq; exact ZvC.eq; exact rfl; exact rfl; exact rfl; ((focus ((repeat (first | exact Flat.nil | (apply Flat.one; (first | exact rfl | assumption)) | (apply Flat.cons; exact rfl; exact rfl))); done))); exact rfl; exact rfl; intro c1)
      try refine WL.wanted rfl rfl rfl ?_
      (apply WL.append; exact rfl; exact rfl; exact rfl; exact UndC.eq; exact SzC.eq; exact ByC.eq; exact ZvC.eq; exact rfl; (first | exact notInt_sl UndC.eq | exact notInt_st UndC.eq); exact rfl; (focus ((repeat constructor); done)))
      · exact adds_blk .head rfl rfl
      · (omega)
      intro d2
      refine WL.ownEq (cs' := (idx (c.pC oc) (i + 1)).map i64) (len' := (idx (c.pC oc) (i + 1)).length) .head (by rw [e1]; simp) (by rw [e1]; simp) ?_
      (first | refine WL.slOwn (v := d2) (by repeat constructor) ?_ | refine WC.slOwn (v := d2) (by repeat constructor) ?_)
      intro hc_d2 ho_d2
      repeat first
        | (apply WL.q; exact rfl; exact rfl; exact rfl; (first | (apply EvW.move; exact rfl) | (apply EvW.fieldAddr0; exact rfl; exact FldC.eq) | (apply EvW.arN; exact rfl; exact rfl; exact rfl; refine i64_in ?_ ?_ <;> omega)))
        | refine WC.region ?_ | refine WL.nil ?_ | refine WE.next ?_ | refine WE.out ?_ | (apply WL.store; exact rfl; exact rfl; (first | assumption | exact rfl); exact SzC.eq; (first | assumption | exact rfl); (focus ((repeat constructor); done)))
      exact WE.again (s := (i, d)) ((i + 1, d2)) (by simp only []; omega) (by (focus ((repeat (first | exact trivial | (refine ⟨rfl, ?_⟩))); done))) (fun _ h => (by (try simp only []); exact h.keep (by repeat constructor))) (by (try simp only []); omega)
    · have hm : c.mine oc (c.crs.getD ((i : Nat) : Int).toNat 0) = false := by simpa using hm
      rw [hm]
      have e1 : idx (c.pC oc) (i + 1) = idx (c.pC oc) i := idx_no hm
      repeat first
        | (apply WL.q; exact rfl; exact rfl; exact rfl; (first | (apply EvW.move; exact rfl) | (apply EvW.arN; exact rfl; exact rfl; exact rfl; refine i64_in ?_ ?_ <;> omega)))
        | refine WC.region ?_ | refine WL.nil ?_ | refine WE.next ?_ | refine WC.skip ?_ | refine WE.out ?_ | refine WC.condF rfl ?_
      exact WE.again (s := (i, d)) ((i + 1, d)) (by simp only []; omega) (by (focus ((repeat (first | exact trivial | (refine ⟨rfl, ?_⟩))); done))) (fun _ h => (by (try simp only []); rw [e1]; exact h.keep (by repeat constructor))) (by (try simp only []); omega)
  obtain rfl : i = c.crs.length := by omega
  rw [show idx (c.pC oc) c.crs.length = c.lC oc from rfl]
  repeat first
    | (apply WL.q; exact rfl; exact rfl; exact rfl; (first | (apply EvW.move; exact rfl) | (apply EvW.fieldAddr0; exact rfl; exact FldC.eq) | (apply EvW.load; exact rfl; exact ScalC.eq; (focus ((repeat constructor); done)); exact rfl) | (apply EvW.cmpF; exact rfl; exact rfl; exact rfl; omega) | (apply EvW.lenRow; exact rfl; exact UndC.eq; assumption)))
    | refine WC.seq ?_ | refine WC.region ?_ | refine WL.nil ?_ | refine WE.next ?_ | refine WC.block ?_ | refine WC.exit ?_ | refine WE.pass ?_ | refine WE.hit ?_ | refine WC.condF rfl ?_
  refine WC.loopK (σ := Nat × Value) [1, 2, 4, 5, 60, 61] (fun s => [(62, i64 s.1)]) (fun s => [.own 3 1 (s.2) (idx (c.pG oc) s.1).length ((idx (c.pG oc) s.1).map i64), .own 3 1 (a) (c.lS oc).length ((c.lS oc).map i64), .own 3 1 (b) (c.lP oc).length ((c.lP oc).map i64), .own 3 1 (d) (c.lC oc).length ((c.lC oc).map i64), .blk hh #[a, b, d, s.2] 51, .blk r #[.slice none 0 0, .slice none 0 0, .slice none 0 0, .slice none 0 0] 51, .blk q1 (cfgC c).toArray 30]) (fun s => s.1 ≤ c.sigs.length) (fun s => c.sigs.length - s.1) (0, .slice none 0 0) (by (focus ((repeat (first | exact Pick.nil | (apply Pick.cons; exact rfl))); done))) (by (focus ((repeat (first | exact trivial | (refine ⟨rfl, ?_⟩))); done))) (fun _ h => h.keep (by repeat constructor)) (Nat.zero_le _) (fun s hs => ?_)
  obtain ⟨i, e⟩ := s
  simp only [List.cons_append, List.nil_append] at hs ⊢
  by_cases hlt3 : (i : Int) < c.sigs.length
  · have hl1 := idx_le (c.pG oc) i
    have hl3 := idx_le (c.pG oc) (i + 1)
    repeat first
      | (apply WL.q; exact rfl; exact rfl; exact rfl; (first | (apply EvW.move; exact rfl) | (apply EvW.cmpT; exact rfl; exact rfl; exact rfl; omega) | (apply EvW.idxRow; exact rfl; exact rfl; exact UndC.eq; exact SzC.eq; assumption; omega; omega)))
      | refine WC.seq ?_ | refine WC.region ?_ | refine WL.nil ?_ | refine WE.next ?_ | refine WC.block ?_ | refine WC.skip ?_ | refine WC.condT rfl ?_
    (apply WL.q; exact rfl; exact rfl; exact rfl; (apply EvW.ldElem (xs := c.sigs) (z := (default : Sig)) (f := sigC); exact rfl; exact AggC.eq; exact SzC.eq; exact rfl; exact fun _ => rfl; assumption; omega))
    try refine WL.wanted rfl rfl rfl ?_
    (apply WL.alloc; exact rfl; exact ZvC.eq; exact rfl; intro x)
    repeat first
      | (apply WL.q; exact rfl; exact rfl; exact rfl; (first | (apply EvW.move; exact rfl) | (apply EvW.assign; exact rfl) | (apply EvW.fieldAddr0; exact rfl; exact FldC.eq) | (apply EvW.load; exact rfl; exact ScalC.eq; (focus ((repeat constructor); done)); exact rfl) | (apply EvW.loadAgg; exact rfl; exact AggC.eq; exact SzC.eq; (focus ((repeat constructor); done)); (focus ((repeat (first | exact SubL.nil | apply SubL.cons | apply SubL.succ)); done)))))
      | refine WC.seq ?_ | refine WC.region ?_ | refine WL.nil ?_ | refine WE.next ?_ | (apply WL.store; exact rfl; exact rfl; (first | assumption | exact rfl); exact SzC.eq; (first | assumption | exact rfl); (focus ((repeat constructor); done)))
    try refine WL.wanted rfl rfl rfl ?_
    apply WL.callA ([])
    · exact rfl
    · exact rfl
    · exact fun w => Try.call39 _ w
    · (focus ((repeat constructor); done))
    · exact fun w1 S1 hS1 hs1 ho1 => of_spec c ((c.sigs.getD ((i : Nat) : Int).toNat default).s) oc w1 S1 hS1 (h.down hs1)
    rintro _ _ ⟨rfl, rfl⟩
    first | refine WL.app4 ?_ | refine WL.app3 ?_ | refine WL.app2 ?_ | refine WL.app1 ?_ | refine WL.app0 ?_ | skip
    by_cases hm : c.mine oc (c.sigs.getD ((i : Nat) : Int).toNat default).s = true
    · rw [hm]
      have e1 : idx (c.pG oc) (i + 1) = idx (c.pG oc) i ++ [(i : Int)] := idx_yes hm
      repeat first
        | (apply WL.q; exact rfl; exact rfl; exact rfl; (first | (apply EvW.move; exact rfl) | (apply EvW.fieldAddr0; exact rfl; exact FldC.eq) | (apply EvW.load; exact rfl; exact ScalC.eq; (focus ((repeat constructor); done)); exact rfl)))
        | refine WC.region ?_ | refine WL.nil ?_ | refine WE.next ?_ | refine WC.condT rfl ?_
      try refine WL.wanted rfl rfl rfl ?_
      (apply WL.buildSlice; exact rfl; exact UndC.eq; exact SzC.eq; exact ZvC.eq; exact rfl; exact rfl; exact rfl; ((focus ((repeat (first | exact Flat.nil | (apply Flat.one; (first | exact rfl | assumption)) | (apply Flat.cons; exact rfl; exact rfl))); done))); exact rfl; exact rfl; intro c1)
      try refine WL.wanted rfl rfl rfl ?_
      (apply WL.append; exact rfl; exact rfl; exact rfl; exact UndC.eq; exact SzC.eq; exact ByC.eq; exact ZvC.eq; exact rfl; (first | exact notInt_sl UndC.eq | exact notInt_st UndC.eq); exact rfl; (focus ((repeat constructor); done)))
      · exact adds_blk .head rfl rfl
      · (omega)
      intro e2
      refine WL.ownEq (cs' := (idx (c.pG oc) (i + 1)).map i64) (len' := (idx (c.pG oc) (i + 1)).length) .head (by rw [e1]; simp) (by rw [e1]; simp) ?_
      (first | refine WL.slOwn (v := e2) (by repeat constructor) ?_ | refine WC.slOwn (v := e2) (by repeat constructor) ?_)
      intro hc_e2 ho_e2
      repeat first
        | (apply WL.q; exact rfl; exact rfl; exact rfl; (first | (apply EvW.move; exact rfl) | (apply EvW.fieldAddr0; exact rfl; exact FldC.eq) | (apply EvW.arN; exact rfl; exact rfl; exact rfl; refine i64_in ?_ ?_ <;> omega)))
        | refine WC.region ?_ | refine WL.nil ?_ | refine WE.next ?_ | refine WE.out ?_ | (apply WL.store; exact rfl; exact rfl; (first | assumption | exact rfl); exact SzC.eq; (first | assumption | exact rfl); (focus ((repeat constructor); done)))
      exact WE.again (s := (i, e)) ((i + 1, e2)) (by simp only []; omega) (by (focus ((repeat (first | exact trivial | (refine ⟨rfl, ?_⟩))); done))) (fun _ h => (by (try simp only []); exact h.keep (by repeat constructor))) (by (try simp only []); omega)
    · have hm : c.mine oc (c.sigs.getD ((i : Nat) : Int).toNat default).s = false := by simpa using hm
      rw [hm]
      have e1 : idx (c.pG oc) (i + 1) = idx (c.pG oc) i := idx_no hm
      repeat first
        | (apply WL.q; exact rfl; exact rfl; exact rfl; (first | (apply EvW.move; exact rfl) | (apply EvW.arN; exact rfl; exact rfl; exact rfl; refine i64_in ?_ ?_ <;> omega)))
        | refine WC.region ?_ | refine WL.nil ?_ | refine WE.next ?_ | refine WC.skip ?_ | refine WE.out ?_ | refine WC.condF rfl ?_
      exact WE.again (s := (i, e)) ((i + 1, e)) (by simp only []; omega) (by (focus ((repeat (first | exact trivial | (refine ⟨rfl, ?_⟩))); done))) (fun _ h => (by (try simp only []); rw [e1]; exact h.keep (by repeat constructor))) (by (try simp only []); omega)
  obtain rfl : i = c.sigs.length := by omega
  rw [show idx (c.pG oc) c.sigs.length = c.lG oc from rfl]
  (first | refine WL.slOwn (v := a) (by repeat constructor) ?_ | refine WC.slOwn (v := a) (by repeat constructor) ?_)
  intro hc_a ho_a
  (first | refine WL.slOwn (v := b) (by repeat constructor) ?_ | refine WC.slOwn (v := b) (by repeat constructor) ?_)
  intro hc_b ho_b
  (first | refine WL.slOwn (v := d) (by repeat constructor) ?_ | refine WC.slOwn (v := d) (by repeat constructor) ?_)
  intro hc_d ho_d
  (first | refine WL.slOwn (v := e) (by repeat constructor) ?_ | refine WC.slOwn (v := e) (by repeat constructor) ?_)
  intro hc_e ho_e
  have hall : ([a, b, d, e] : List Value).all (·.oneCell') = true := by
    simp at ho_a ho_b ho_d ho_e
    simp [ho_a, ho_b, ho_d, ho_e]
  clear hc_a hc_b hc_d hc_e ho_a ho_b ho_d ho_e
  repeat first
    | (apply WL.q; exact rfl; exact rfl; exact rfl; (first | (apply EvW.cmpF; exact rfl; exact rfl; exact rfl; omega) | (apply EvW.loadAgg; exact rfl; exact AggC.eq; exact SzC.eq; (focus ((repeat constructor); done)); (focus ((repeat (first | exact SubL.nil | apply SubL.cons | apply SubL.succ)); done)))))
    | refine WC.seq ?_ | refine WC.region ?_ | refine WL.nil ?_ | refine WE.next ?_ | refine WC.exit ?_ | refine WE.pass ?_ | refine WE.hit ?_ | refine WC.condF rfl ?_ | refine WC.ret ?_ | (apply WL.store; exact rfl; exact rfl; (first | assumption | exact rfl); exact SzC.eq; (first | assumption | exact rfl); (focus ((repeat constructor); done)))
  (apply WE.retC (A' := [.own 3 1 (a) (c.lS oc).length ((c.lS oc).map i64), .own 3 1 (b) (c.lP oc).length ((c.lP oc).map i64), .own 3 1 (d) (c.lC oc).length ((c.lC oc).map i64), .own 3 1 (e) (c.lG oc).length ((c.lG oc).map i64)]); exact rfl; exact rfl; (focus ((repeat constructor); done)); exact AggC.eq; exact SzC.eq; exact fun _ h => h.keep (by repeat constructor))
  exact ⟨a, b, d, e, rfl, rfl⟩
end Go.Proofs.Ytamofjpadnnppaa
namespace Go.Proofs.Ytamofjpadnnppaa
open Go.RowKit Go.BK
theorem all_flat {α : Type} {f : α → List Value} (h : ∀ a, (f a).all (·.oneCell') = true) (l : List α) : (l.flatMap f).all (·.oneCell') = true := by
  rw [List.all_eq_true]
  intro x hx
  obtain ⟨s, _, hs⟩ := List.mem_flatMap.1 hx
  exact List.all_eq_true.1 (h s) x hs
theorem all_i64 (l : List Int) : (l.map i64).all (·.oneCell') = true := by
  rw [List.all_eq_true]
  intro x hx
  obtain ⟨s, _, rfl⟩ := List.mem_map.1 hx
  rfl
theorem cloneS_spec (ds : List Sec) (v : Value) (w : World) (S : BSet) (hS : (sepL []).sat S w) (hv : Sees w S (.row 3 v ds.length (ds.flatMap secC))) (hn : ds.length ≤ 1048576) :
    Tri Try.prog 24 #[v] w S fun u A => A = [.own 47 3 u ds.length (ds.flatMap secC)] := by
  refine Tri.enter (l := [v]) Try.func24 rfl Try.ntmps24 rfl [(0, v)] (subA rfl) hS ?_
  rcases id hv.row_shape with ⟨p, cap, rfl, h0, h1⟩ | ⟨b, off, cap, rfl, h1⟩
  · cases p with
    | none =>
      obtain rfl : ds = [] := List.length_eq_zero_iff.1 h0
      refine WC.ownNil 47 3 ?_
      repeat first
        | (apply WL.q; exact rfl; exact rfl; exact rfl; (first | (apply EvW.move; exact rfl) | (apply EvW.assign; exact rfl) | (apply EvW.eqNilT; exact rfl; exact rfl; exact UndC.eq)))
        | refine WC.seq ?_ | refine WC.region ?_ | refine WL.nil ?_ | refine WE.next ?_ | refine WC.condT rfl ?_ | refine WC.ret ?_ | refine WE.passRet ?_
      refine WE.ret1 rfl rfl ?_
      exact rfl
    | some p =>
      repeat first
        | (apply WL.q; exact rfl; exact rfl; exact rfl; (first | (apply EvW.move; exact rfl) | (apply EvW.assign; exact rfl) | (apply EvW.eqNilF; exact rfl; exact rfl; exact UndC.eq)))
        | refine WC.seq ?_ | refine WC.region ?_ | refine WL.nil ?_ | refine WE.next ?_ | refine WC.skip ?_ | refine WC.condF rfl ?_
      try refine WL.wanted rfl rfl rfl ?_
      (apply WL.buildSlice; exact rfl; exact UndC.eq; exact SzC.eq; exact ZvC.eq; exact rfl; exact rfl; exact rfl; ((focus ((repeat (first | exact Flat.nil | (apply Flat.one; (first | exact rfl | assumption)) | (apply Flat.cons; exact rfl; exact rfl))); done))); exact rfl; exact rfl; intro k0)
      refine WL.toOwn (bl := k0) 0 3 .head rfl ?_
      repeat first
        | (apply WL.q; exact rfl; exact rfl; exact rfl; (first | (apply EvW.move; exact rfl)))
      try refine WL.wanted rfl rfl rfl ?_
      (apply WL.append; exact rfl; exact rfl; exact rfl; exact UndC.eq; exact SzC.eq; exact ByC.eq; exact ZvC.eq; exact rfl; (first | exact notInt_sl UndC.eq | exact notInt_st UndC.eq); exact rfl; (focus ((repeat constructor); done)))
      · exact (adds_row hv (all_flat (fun _ => rfl) _))
      · (simp; omega)
      intro v1
      refine WL.ownEq (cs' := ds.flatMap secC) (len' := ds.length) .head (by simp) (by simp) ?_
      repeat first
        | (apply WL.q; exact rfl; exact rfl; exact rfl; (first | (apply EvW.assign; exact rfl)))
        | refine WL.nil ?_ | refine WE.next ?_ | refine WC.ret ?_
      refine WE.ret1 rfl rfl ?_
      exact rfl
  · repeat first
      | (apply WL.q; exact rfl; exact rfl; exact rfl; (first | (apply EvW.move; exact rfl) | (apply EvW.assign; exact rfl) | (apply EvW.eqNilF; exact rfl; exact rfl; exact UndC.eq)))
      | refine WC.seq ?_ | refine WC.region ?_ | refine WL.nil ?_ | refine WE.next ?_ | refine WC.skip ?_ | refine WC.condF rfl ?_
    try refine WL.wanted rfl rfl rfl ?_
    (apply WL.buildSlice; exact rfl; exact UndC.eq; exact SzC.eq; exact ZvC.eq; exact rfl; exact rfl; exact rfl; ((focus ((repeat (first | exact Flat.nil | (apply Flat.one; (first | exact rfl | assumption)) | (apply Flat.cons; exact rfl; exact rfl))); done))); exact rfl; exact rfl; intro k0)
    refine WL.toOwn (bl := k0) 0 3 .head rfl ?_
    repeat first
      | (apply WL.q; exact rfl; exact rfl; exact rfl; (first | (apply EvW.move; exact rfl)))
    try refine WL.wanted rfl rfl rfl ?_
    (apply WL.append; exact rfl; exact rfl; exact rfl; exact UndC.eq; exact SzC.eq; exact ByC.eq; exact ZvC.eq; exact rfl; (first | exact notInt_sl UndC.eq | exact notInt_st UndC.eq); exact rfl; (focus ((repeat constructor); done)))
    · exact (adds_row hv (all_flat (fun _ => rfl) _))
    · (simp; omega)
    intro v1
    refine WL.ownEq (cs' := ds.flatMap secC) (len' := ds.length) .head (by simp) (by simp) ?_
    repeat first
      | (apply WL.q; exact rfl; exact rfl; exact rfl; (first | (apply EvW.assign; exact rfl)))
      | refine WL.nil ?_ | refine WE.next ?_ | refine WC.ret ?_
    refine WE.ret1 rfl rfl ?_
    exact rfl
theorem cloneG_spec (ds : List Sig) (v : Value) (w : World) (S : BSet) (hS : (sepL []).sat S w) (hv : Sees w S (.row 2 v ds.length (ds.flatMap sigC))) (hn : ds.length ≤ 1048576) :
    Tri Try.prog 26 #[v] w S fun u A => A = [.own 70 2 u ds.length (ds.flatMap sigC)] := by
  refine Tri.enter (l := [v]) Try.func26 rfl Try.ntmps26 rfl [(0, v)] (subA rfl) hS ?_
  rcases id hv.row_shape with ⟨p, cap, rfl, h0, h1⟩ | ⟨b, off, cap, rfl, h1⟩
  · cases p with
    | none =>
      obtain rfl : ds = [] := List.length_eq_zero_iff.1 h0
      refine WC.ownNil 70 2 ?_
      repeat first
        | (apply WL.q; exact rfl; exact rfl; exact rfl; (first | (apply EvW.move; exact rfl) | (apply EvW.assign; exact rfl) | (apply EvW.eqNilT; exact rfl; exact rfl; exact UndC.eq)))
        | refine WC.seq ?_ | refine WC.region ?_ | refine WL.nil ?_ | refine WE.next ?_ | refine WC.condT rfl ?_ | refine WC.ret ?_ | refine WE.passRet ?_
      refine WE.ret1 rfl rfl ?_
      exact rfl
    | some p =>
      repeat first
        | (apply WL.q; exact rfl; exact rfl; exact rfl; (first | (apply EvW.move; exact rfl) | (apply EvW.assign; exact rfl) | (apply EvW.eqNilF; exact rfl; exact rfl; exact UndC.eq)))
        | refine WC.seq ?_ | refine WC.region ?_ | refine WL.nil ?_ | refine WE.next ?_ | refine WC.skip ?_ | refine WC.condF rfl ?_
      try refine WL.wanted rfl rfl rfl ?_
      (apply WL.buildSlice; exact rfl; exact UndC.eq; exact SzC.eq; exact ZvC.eq; exact rfl; exact rfl; exact rfl; ((focus ((repeat (first | exact Flat.nil | (apply Flat.one; (first | exact rfl | assumption)) | (apply Flat.cons; exact rfl; exact rfl))); done))); exact rfl; exact rfl; intro k0)
      refine WL.toOwn (bl := k0) 0 2 .head rfl ?_
      repeat first
        | (apply WL.q; exact rfl; exact rfl; exact rfl; (first | (apply EvW.move; exact rfl)))
      try refine WL.wanted rfl rfl rfl ?_
      (apply WL.append; exact rfl; exact rfl; exact rfl; exact UndC.eq; exact SzC.eq; exact ByC.eq; exact ZvC.eq; exact rfl; (first | exact notInt_sl UndC.eq | exact notInt_st UndC.eq); exact rfl; (focus ((repeat constructor); done)))
      · exact (adds_row hv (all_flat (fun _ => rfl) _))
      · (simp; omega)
      intro v1
      refine WL.ownEq (cs' := ds.flatMap sigC) (len' := ds.length) .head (by simp) (by simp) ?_
      repeat first
        | (apply WL.q; exact rfl; exact rfl; exact rfl; (first | (apply EvW.assign; exact rfl)))
        | refine WL.nil ?_ | refine WE.next ?_ | refine WC.ret ?_
      refine WE.ret1 rfl rfl ?_
      exact rfl
  · repeat first
      | (apply WL.q; exact rfl; exact rfl; exact rfl; (first | (apply EvW.move; exact rfl) | (apply EvW.assign; exact rfl) | (apply EvW.eqNilF; exact rfl; exact rfl; exact UndC.eq)))
      | refine WC.seq ?_ | refine WC.region ?_ | refine WL.nil ?_ | refine WE.next ?_ | refine WC.skip ?_ | refine WC.condF rfl ?_
    try refine WL.wanted rfl rfl rfl ?_
    (apply WL.buildSlice; exact rfl; exact UndC.eq; exact SzC.eq; exact ZvC.eq; exact rfl; exact rfl; exact rfl; ((focus ((repeat (first | exact Flat.nil | (apply Flat.one; (first | exact rfl | assumption)) | (apply Flat.cons; exact rfl; exact rfl))); done))); exact rfl; exact rfl; intro k0)
    refine WL.toOwn (bl := k0) 0 2 .head rfl ?_
    repeat first
      | (apply WL.q; exact rfl; exact rfl; exact rfl; (first | (apply EvW.move; exact rfl)))
    try refine WL.wanted rfl rfl rfl ?_
    (apply WL.append; exact rfl; exact rfl; exact rfl; exact UndC.eq; exact SzC.eq; exact ByC.eq; exact ZvC.eq; exact rfl; (first | exact notInt_sl UndC.eq | exact notInt_st UndC.eq); exact rfl; (focus ((repeat constructor); done)))
    · exact (adds_row hv (all_flat (fun _ => rfl) _))
    · (simp; omega)
    intro v1
    refine WL.ownEq (cs' := ds.flatMap sigC) (len' := ds.length) .head (by simp) (by simp) ?_
    repeat first
      | (apply WL.q; exact rfl; exact rfl; exact rfl; (first | (apply EvW.assign; exact rfl)))
      | refine WL.nil ?_ | refine WE.next ?_ | refine WC.ret ?_
    refine WE.ret1 rfl rfl ?_
    exact rfl
theorem cloneI_spec (ds : List Int) (v : Value) (w : World) (S : BSet) (hS : (sepL []).sat S w) (hv : Sees w S (.row 1 v ds.length (ds.map i64))) (hn : ds.length ≤ 1048576) :
    Tri Try.prog 25 #[v] w S fun u A => A = [.own 3 1 u ds.length (ds.map i64)] := by
  refine Tri.enter (l := [v]) Try.func25 rfl Try.ntmps25 rfl [(0, v)] (subA rfl) hS ?_
  rcases id hv.row_shape with ⟨p, cap, rfl, h0, h1⟩ | ⟨b, off, cap, rfl, h1⟩
  · cases p with
    | none =>
      obtain rfl : ds = [] := List.length_eq_zero_iff.1 h0
      refine WC.ownNil 3 1 ?_
      repeat first
        | (apply WL.q; exact rfl; exact rfl; exact rfl; (first | (apply EvW.move; exact rfl) | (apply EvW.assign; exact rfl) | (apply EvW.eqNilT; exact rfl; exact rfl; exact UndC.eq)))
        | refine WC.seq ?_ | refine WC.region ?_ | refine WL.nil ?_ | refine WE.next ?_ | refine WC.condT rfl ?_ | refine WC.ret ?_ | refine WE.passRet ?_
      refine WE.ret1 rfl rfl ?_
      exact rfl
    | some p =>
      repeat first
        | (apply WL.q; exact rfl; exact rfl; exact rfl; (first | (apply EvW.move; exact rfl) | (apply EvW.assign; exact rfl) | (apply EvW.eqNilF; exact rfl; exact rfl; exact UndC.eq)))
        | refine WC.seq ?_ | refine WC.region ?_ | refine WL.nil ?_ | refine WE.next ?_ | refine WC.skip ?_ | refine WC.condF rfl ?_
      try refine WL.wanted rfl rfl rfl ?_
      (apply WL.buildSlice; exact rfl; exact UndC.eq; exact SzC.eq; exact ZvC.eq; exact rfl; exact rfl; exact rfl; ((focus ((repeat (first | exact Flat.nil | (apply Flat.one; (first | exact rfl | assumption)) | (apply Flat.cons; exact rfl; exact rfl))); done))); exact rfl; exact rfl; intro k0)
      refine WL.toOwn (bl := k0) 0 1 .head rfl ?_
      repeat first
        | (apply WL.q; exact rfl; exact rfl; exact rfl; (first | (apply EvW.move; exact rfl)))
      try refine WL.wanted rfl rfl rfl ?_
      (apply WL.append; exact rfl; exact rfl; exact rfl; exact UndC.eq; exact SzC.eq; exact ByC.eq; exact ZvC.eq; exact rfl; (first | exact notInt_sl UndC.eq | exact notInt_st UndC.eq); exact rfl; (focus ((repeat constructor); done)))
      · exact (adds_row hv (all_i64 _))
      · (simp; omega)
      intro v1
      refine WL.ownEq (cs' := ds.map i64) (len' := ds.length) .head (by simp) (by simp) ?_
      repeat first
        | (apply WL.q; exact rfl; exact rfl; exact rfl; (first | (apply EvW.assign; exact rfl)))
        | refine WL.nil ?_ | refine WE.next ?_ | refine WC.ret ?_
      refine WE.ret1 rfl rfl ?_
      exact rfl
  · repeat first
      | (apply WL.q; exact rfl; exact rfl; exact rfl; (first | (apply EvW.move; exact rfl) | (apply EvW.assign; exact rfl) | (apply EvW.eqNilF; exact rfl; exact rfl; exact UndC.eq)))
      | refine WC.seq ?_ | refine WC.region ?_ | refine WL.nil ?_ | refine WE.next ?_ | refine WC.skip ?_ | refine WC.condF rfl ?_
    try refine WL.wanted rfl rfl rfl ?_
    (apply WL.buildSlice; exact rfl; exact UndC.eq; exact SzC.eq; exact ZvC.eq; exact rfl; exact rfl; exact rfl; ((focus ((repeat (first | exact Flat.nil | (apply Flat.one; (first | exact rfl | assumption)) | (apply Flat.cons; exact rfl; exact rfl))); done))); exact rfl; exact rfl; intro k0)
    refine WL.toOwn (bl := k0) 0 1 .head rfl ?_
    repeat first
      | (apply WL.q; exact rfl; exact rfl; exact rfl; (first | (apply EvW.move; exact rfl)))
    try refine WL.wanted rfl rfl rfl ?_
    (apply WL.append; exact rfl; exact rfl; exact rfl; exact UndC.eq; exact SzC.eq; exact ByC.eq; exact ZvC.eq; exact rfl; (first | exact notInt_sl UndC.eq | exact notInt_st UndC.eq); exact rfl; (focus ((repeat constructor); done)))
    · exact (adds_row hv (all_i64 _))
    · (simp; omega)
    intro v1
    refine WL.ownEq (cs' := ds.map i64) (len' := ds.length) .head (by simp) (by simp) ?_
    repeat first
      | (apply WL.q; exact rfl; exact rfl; exact rfl; (first | (apply EvW.assign; exact rfl)))
      | refine WL.nil ?_ | refine WE.next ?_ | refine WC.ret ?_
    refine WE.ret1 rfl rfl ?_
    exact rfl
def voiceH (v : Voice) : HP := sepL [.blk (v).b #[ptr (v).r 0, (v).sh.a, (v).sh.b, (v).sh.y, (v).sh.d, (v).sd.a, (v).sd.b, (v).sd.y, (v).sd.d, i64 (v).stamp] 78, .blk v.r #[i64 (v.rc).last, i64 (v.rc).lost, i64 (v.rc).num, i64 (v.rc).peer, i64 (v.rc).age] 85, .own 3 1 ((v.sh).a) ((v.sh).la).length (((v.sh).la).map i64), .own 3 1 ((v.sh).b) ((v.sh).lb).length (((v.sh).lb).map i64), .own 3 1 ((v.sh).y) ((v.sh).ly).length (((v.sh).ly).map i64), .own 3 1 ((v.sh).d) ((v.sh).ld).length (((v.sh).ld).map i64), .own 3 1 ((v.sd).a) ((v.sd).la).length (((v.sd).la).map i64), .own 3 1 ((v.sd).b) ((v.sd).lb).length (((v.sd).lb).map i64), .own 3 1 ((v.sd).y) ((v.sd).ly).length (((v.sd).ly).map i64), .own 3 1 ((v.sd).d) ((v.sd).ld).length (((v.sd).ld).map i64)]
def imgH (x : Img) : HP := sepL [.blk (x).b #[(x).c.vS, (x).c.vJ, (x).c.vG, (x).c.vC, (x).c.vR, i64 (x).c.age, i64 (x).c.brake, i64 (x).c.hold, i64 (x).c.budget, (x).vv] 73, .own 47 3 (x.c).vS (x.c).secs.length ((x.c).secs.flatMap secC), .own 70 2 (x.c).vG (x.c).sigs.length ((x.c).sigs.flatMap sigC), .own 3 1 (x.c).vC (x.c).crs.length ((x.c).crs.map i64), .own 74 1 x.vv 4 (x.vs.map vPtr), sepL (x.vs.map voiceH)]
def nilQ : Q4 := ⟨.slice none 0 0, .slice none 0 0, .slice none 0 0, .slice none 0 0, [], [], [], []⟩
/-- Which elements a controller has, at these values. -/
def Cfg.shape (c : Cfg) (oc : Int) (v : Value) : Q4 := ⟨cA v 0, cA v 1, cA v 2, cA v 3, c.lS oc, c.lP oc, c.lC oc, c.lG oc⟩
def newV (c : Cfg) (k : Nat) (p : Value) : Voice := ⟨pB (cA p 0), pB (cA p 1), Rcv.new k c.age, c.shape k (cA p 2), nilQ, -1⟩
def ownC (c : Cfg) (s g r : Value) : Cfg := { c with vS := s, vJ := .slice none 0 0, vG := g, vC := r, vR := .slice none 0 0 }
def newI (c : Cfg) (p : Nat × Value) : Img := ⟨p.1, ownC c (cA p.2 0) (cA p.2 1) (cA p.2 2), cA p.2 3, ([0, 1, 2, 3] : List Nat).map fun k => newV c k (cA (cA p.2 4) k)⟩
def vsOf (c : Cfg) (ps : List Value) : List Voice := ps.mapIdx (newV c)
theorem vsOf_snoc (c : Cfg) (ps : List Value) (p : Value) : vsOf c (ps ++ [p]) = vsOf c ps ++ [newV c ps.length p] := by unfold vsOf; rw [List.mapIdx_append]; simp
theorem vsOf_four (c : Cfg) (ps : List Value) (h : ps.length = 4) : vsOf c ps = ([0, 1, 2, 3] : List Nat).map fun k => newV c k (cA (.agg ps.toArray) k) := by
  match ps, h with
  | [a, b, d, e], _ => rfl
theorem own_lS (g : Cfg) (s a r : Value) (oc : Int) : (ownC g s a r).lS oc = g.lS oc := rfl
theorem own_lP (g : Cfg) (s a r : Value) (oc : Int) : (ownC g s a r).lP oc = g.lP oc := rfl
theorem own_lC (g : Cfg) (s a r : Value) (oc : Int) : (ownC g s a r).lC oc = g.lC oc := rfl
theorem own_lG (g : Cfg) (s a r : Value) (oc : Int) : (ownC g s a r).lG oc = g.lG oc := rfl
theorem ownShape_spec (g : Cfg) (vs vg vr : Value) (oc : Int) (w : World) (S : BSet) (hS : (sepL []).sat S w) (h1 : Sees w S (.own 47 3 vs g.secs.length (g.secs.flatMap secC))) (h2 : Sees w S (.own 70 2 vg g.sigs.length (g.sigs.flatMap sigC))) (h3 : Sees w S (.own 3 1 vr g.crs.length (g.crs.map i64))) (n1 : g.secs.length ≤ 8796093022208) (n2 : g.sigs.length ≤ 8796093022208) (n3 : g.crs.length ≤ 17592186044416) :
    Tri Try.prog 28 #[.agg #[vs, (.slice none 0 0), vg, vr, (.slice none 0 0), i64 g.age, i64 g.brake, i64 g.hold, i64 g.budget], i64 oc] w S fun u A => ∃ a b d e, u = .agg #[a, b, d, e] ∧ A = [.own 3 1 (a) ((g.lS oc)).length (((g.lS oc)).map i64), .own 3 1 (b) ((g.lP oc)).length (((g.lP oc)).map i64), .own 3 1 (d) ((g.lC oc)).length (((g.lC oc)).map i64), .own 3 1 (e) ((g.lG oc)).length (((g.lG oc)).map i64)] := by
  have h := shape_spec (ownC g vs vg vr) oc w S hS ⟨h1.own, h2.own, h3.own, n1, n2, n3⟩
  rw [own_lS, own_lP, own_lC, own_lG] at h
  exact h
end Go.Proofs.Ytamofjpadnnppaa
namespace Go.Proofs.Ytamofjpadnnppaa
open Go.RowKit Go.BK
set_option maxHeartbeats 1000000 in
theorem newI_spec (g : Cfg) (w : World) (S : BSet) (hS : (sepL []).sat S w) (h : g.Seen w S) (hs : g.Small) :
    Tri Try.prog 8 #[.agg (cfgC g).toArray] w S fun u A => ∃ p : Nat × Value, u = ptr p.1 0 ∧ A = [imgH (newI g p)] := by
  refine Tri.enter (l := [.agg (cfgC g).toArray]) Try.func8 rfl Try.ntmps8 rfl [(0, .agg (cfgC g).toArray)] (subA rfl) hS ?_
  obtain ⟨hnS, hnG, hnC⟩ := hs
  have hsec := h.secs
  have hsig := h.sigs
  have hcrs := h.crs
  repeat first
    | refine WC.seq ?_ | refine WC.region ?_
  try refine WL.wanted rfl rfl rfl ?_
  (apply WL.box; exact rfl; exact rfl; exact rfl; intro q0)
  repeat first
    | (apply WL.q; exact rfl; exact rfl; exact rfl; (first | (apply EvW.assign; exact rfl)))
    | refine WC.seq ?_ | refine WL.nil ?_ | refine WE.next ?_
  repeat refine WC.seq ?_
  refine WC.keep (xs := [.blk q0 (cfgC g).toArray 30]) (by repeat constructor) ?_
  apply WC.par _ (fun c : Ch => [.blk q0 (cfgC g).toArray 30, .own 47 3 (c 2).2 g.secs.length (g.secs.flatMap secC), .own 3 1 (c 5).2 g.crs.length (g.crs.map i64), .own 70 2 (c 8).2 g.sigs.length (g.sigs.flatMap sigC), .blk (c 12).1 #[(.slice none 0 0), (.slice none 0 0), (.slice none 0 0), (.slice none 0 0), (.slice none 0 0), i64 0, i64 0, i64 0, i64 0] 30, .blk (c 12).1 (cfgC (ownC g (c 2).2 (c 8).2 (c 5).2)).toArray 30]) [none, some 2, some 5, some 8, some 12, some 13] [none, none, none, none, some 13, none] [(2, fun x => x.2), (5, fun x => x.2), (8, fun x => x.2), (12, fun x => ptr x.1 0)] Try.mixed
  · (focus ((repeat (first | exact Restr.nil | (apply Restr.keep; exact rfl; exact rfl) | (apply Restr.drop; exact rfl))); done))
  · intro c; exact (by repeat constructor)
  · exact rfl
  · decide +kernel
  · decide +kernel
  · intro c
    (apply Par.quiet _ [true, false, false, false, false, false]; exact rfl; decide +kernel; exact rfl; intro R; refine ⟨_, (by repeat constructor), ?_⟩;
         (first | (apply EvW.fieldAddr0; exact rfl; exact FldC.eq)))
    (apply Par.quiet _ [true, false, false, false, false, false]; exact rfl; decide +kernel; exact rfl; intro R; refine ⟨_, (by repeat constructor), ?_⟩;
         (first | (apply EvW.load; exact rfl; exact ScalC.eq; (focus ((repeat constructor); done)); exact rfl)))
    apply Par.new _ [false, false, false, false, false, false] [false, true, false, false, false, false] [true, false, false, false, false, false]
    · exact rfl
    · exact rfl
    · decide +kernel
    · intro R
      refine ⟨_, _, _, (by repeat constructor), (by repeat constructor), (fun x => (by repeat constructor)), ?_⟩
      apply NewW.call (fun x => [.own 47 3 (x.2) g.secs.length (g.secs.flatMap secC)])
      · exact rfl
      · exact fun w1 S1 hS1 hs1 ho1 => cloneS_spec g.secs g.vS w1 S1 hS1 (hs1 _ hsec) hnS
      · exact fun w => Try.call24 _ w
      · (focus ((repeat constructor); done))
      · rintro _ _ rfl; exact ⟨(0, _), rfl, rfl⟩
      · exact fun x _ h => TakeT.st (by (focus ((repeat (first | exact TakeT.tail | apply TakeT.cons | exact Take.head | apply Take.tail | apply TakeT.drop)); done))) h
    (apply Par.quiet _ [true, false, false, false, false, false]; exact rfl; decide +kernel; exact rfl; intro R; refine ⟨_, (by repeat constructor), ?_⟩;
         (first | (apply EvW.fieldAddr0; exact rfl; exact FldC.eq)))
    (apply Par.quiet _ [true, false, false, false, false, false]; exact rfl; decide +kernel; exact rfl; intro R; refine ⟨_, (by repeat constructor), ?_⟩;
         (first | (apply EvW.load; exact rfl; exact ScalC.eq; (focus ((repeat constructor); done)); exact rfl)))
    apply Par.new _ [false, false, false, false, false, false] [false, false, true, false, false, false] [true, true, false, false, false, false]
    · exact rfl
    · exact rfl
    · decide +kernel
    · intro R
      refine ⟨_, _, _, (by repeat constructor), (by repeat constructor), (fun x => (by repeat constructor)), ?_⟩
      apply NewW.call (fun x => [.own 3 1 (x.2) g.crs.length (g.crs.map i64)])
      · exact rfl
      · exact fun w1 S1 hS1 hs1 ho1 => cloneI_spec g.crs g.vC w1 S1 hS1 (hs1 _ hcrs) hnC
      · exact fun w => Try.call25 _ w
      · (focus ((repeat constructor); done))
      · rintro _ _ rfl; exact ⟨(0, _), rfl, rfl⟩
      · exact fun x _ h => TakeT.st (by (focus ((repeat (first | exact TakeT.tail | apply TakeT.cons | exact Take.head | apply Take.tail | apply TakeT.drop)); done))) h
    (apply Par.quiet _ [true, false, false, false, false, false]; exact rfl; decide +kernel; exact rfl; intro R; refine ⟨_, (by repeat constructor), ?_⟩;
         (first | (apply EvW.fieldAddr0; exact rfl; exact FldC.eq)))
    (apply Par.quiet _ [true, false, false, false, false, false]; exact rfl; decide +kernel; exact rfl; intro R; refine ⟨_, (by repeat constructor), ?_⟩;
         (first | (apply EvW.load; exact rfl; exact ScalC.eq; (focus ((repeat constructor); done)); exact rfl)))
    apply Par.new _ [false, false, false, false, false, false] [false, false, false, true, false, false] [true, true, true, false, false, false]
    · exact rfl
    · exact rfl
    · decide +kernel
    · intro R
      refine ⟨_, _, _, (by repeat constructor), (by repeat constructor), (fun x => (by repeat constructor)), ?_⟩
      apply NewW.call (fun x => [.own 70 2 (x.2) g.sigs.length (g.sigs.flatMap sigC)])
      · exact rfl
      · exact fun w1 S1 hS1 hs1 ho1 => cloneG_spec g.sigs g.vG w1 S1 hS1 (hs1 _ hsig) hnG
      · exact fun w => Try.call26 _ w
      · (focus ((repeat constructor); done))
      · rintro _ _ rfl; exact ⟨(0, _), rfl, rfl⟩
      · exact fun x _ h => TakeT.st (by (focus ((repeat (first | exact TakeT.tail | apply TakeT.cons | exact Take.head | apply Take.tail | apply TakeT.drop)); done))) h
    (apply Par.quiet _ [true, false, false, false, false, false]; exact rfl; decide +kernel; exact rfl; intro R; refine ⟨_, (by repeat constructor), ?_⟩;
         (first | (apply EvW.fieldAddr0; exact rfl; exact FldC.eq)))
    (apply Par.quiet _ [true, false, false, false, false, false]; exact rfl; decide +kernel; exact rfl; intro R; refine ⟨_, (by repeat constructor), ?_⟩;
         (first | (apply EvW.loadAgg; exact rfl; exact AggC.eq; exact SzC.eq; (focus ((repeat constructor); done)); (focus ((repeat (first | exact SubL.nil | apply SubL.cons | apply SubL.succ)); done)))))
    apply Par.quiet _ [true, true, true, true, false, false]
    · exact rfl
    · decide +kernel
    · exact rfl
    · intro R
      refine ⟨_, (by repeat constructor), ?_⟩
      (apply EvW.slOwn ((c 2).2); (focus ((repeat constructor); done)); intro h2 _; apply EvW.slOwn ((c 5).2); (focus ((repeat constructor); done)); intro h5 _; apply EvW.slOwn ((c 8).2); (focus ((repeat constructor); done)); intro h8 _; apply EvW.build; exact PlC.eq; exact ZvC.eq; exact rfl; exact rfl; (focus ((repeat (first | exact Fills.nil | (apply Fills.cons; exact rfl; (first | assumption | exact rfl); exact rfl) | exact SetMany.nil | apply SetMany.cons | apply SetMany.succ)); done)))
    (apply Par.new _ [false, false, false, false, false, false] [false, false, false, false, true, false] [true, false, false, false, false, false]; exact rfl; exact rfl; decide +kernel; intro R; refine ⟨_, _, _, (by repeat constructor), (by repeat constructor), (fun x => (by repeat constructor)), ?_⟩; (apply NewW.alloc; exact ZvC.eq; exact rfl; exact fun _ => rfl))
    apply Par.eff _ [false, false, false, false, true, false] [false, false, false, false, false, true] [true, true, true, true, false, false]
    · exact rfl
    · exact rfl
    · decide +kernel
    · intro R
      refine ⟨_, _, _, (by repeat constructor), (by repeat constructor), (by repeat constructor), ?_⟩
      (apply EffW.slOwn ((c 2).2); (focus ((repeat constructor); done)); intro _ h2; apply EffW.slOwn ((c 5).2); (focus ((repeat constructor); done)); intro _ h5; apply EffW.slOwn ((c 8).2); (focus ((repeat constructor); done)); intro _ h8; (apply EffW.store; exact rfl; exact rfl; exact rfl; exact SzC.eq; (simp [h2, h5, h8]; exact ⟨rfl, rfl, rfl, rfl, rfl⟩); (focus ((repeat constructor); done))))
    exact Par.nil
  · repeat (first | exact AllN.nil | (apply AllN.cons; (intro c x; (repeat (first | exact IndA.nil | (apply IndA.skip; decide +kernel) | apply IndA.same))))) 
  · repeat (first | exact AllN.nil | (apply AllN.cons; (intro c x; (repeat (first | exact IndT.nil | (apply IndT.skip; decide +kernel) | apply IndT.same))))) 
  · exact fun _ => rfl
  intro c
  refine ⟨_, (by repeat constructor), ?_⟩
  apply WE.writ
  · (focus ((repeat (first | exact Writ.nil | apply Writ.some | apply Writ.none)); done))
  generalize (c 12).1 = b12
  generalize (c 2).2 = vs
  generalize (c 8).2 = vg
  generalize (c 5).2 = vr
  repeat first
    | (apply WL.q; exact rfl; exact rfl; exact rfl; (first | (apply EvW.loadAgg; exact rfl; exact AggC.eq; exact SzC.eq; (focus ((repeat constructor); done)); (focus ((repeat (first | exact SubL.nil | apply SubL.cons | apply SubL.succ)); done))) | (apply EvW.build; exact PlC.eq; exact ZvC.eq; exact rfl; exact rfl; (focus ((repeat (first | exact Fills.nil | (apply Fills.cons; exact rfl; (first | assumption | exact rfl); exact rfl) | exact SetMany.nil | apply SetMany.cons | apply SetMany.succ)); done)))))
    | refine WC.seq ?_ | refine WC.region ?_ | refine WE.next ?_
  try refine WL.wanted rfl rfl rfl ?_
  (apply WL.box; exact rfl; exact rfl; exact rfl; intro mb)
  repeat first
    | (apply WL.q; exact rfl; exact rfl; exact rfl; (first | (apply EvW.move; exact rfl) | (apply EvW.assign; exact rfl)))
    | refine WC.seq ?_ | refine WC.region ?_ | refine WL.nil ?_ | refine WE.next ?_ | refine WC.block ?_
  refine WC.noneL ?_
  refine WC.ownNil 74 1 ?_
  refine WC.loopK (σ := Nat × Value × List Value) [1, 3, 4] (fun s => [(21, i64 s.1)]) (fun s => [.blk q0 (cfgC g).toArray 30, .blk b12 #[vs, (.slice none 0 0), vg, vr, (.slice none 0 0), i64 g.age, i64 g.brake, i64 g.hold, i64 g.budget] 30, .own 47 3 vs g.secs.length (g.secs.flatMap secC), .own 70 2 vg g.sigs.length (g.sigs.flatMap sigC), .own 3 1 vr g.crs.length (g.crs.map i64), .blk mb #[vs, (.slice none 0 0), vg, vr, (.slice none 0 0), i64 g.age, i64 g.brake, i64 g.hold, i64 g.budget, s.2.1] 73, .own 74 1 s.2.1 s.1 ((vsOf g s.2.2).map vPtr), sepL ((vsOf g s.2.2).map voiceH)]) (fun s => s.1 ≤ 4 ∧ s.2.2.length = s.1) (fun s => 4 - s.1) (0, .slice none 0 0, []) (by (focus ((repeat (first | exact Pick.nil | (apply Pick.cons; exact rfl))); done))) (by (focus ((repeat (first | exact trivial | (refine ⟨rfl, ?_⟩))); done))) (fun _ h => h.keep (by repeat constructor)) ⟨Nat.zero_le _, rfl⟩ (fun s hs => ?_)
  obtain ⟨i, vv, ps⟩ := s
  simp only [List.cons_append, List.nil_append] at hs ⊢
  obtain ⟨hi, hl⟩ := hs
  subst hl
  by_cases hlt : ((ps.length : Nat) : Int) < 4
  · repeat first
      | (apply WL.q; exact rfl; exact rfl; exact rfl; (first | (apply EvW.move; exact rfl) | (apply EvW.assign; exact rfl) | (apply EvW.cmpT; exact rfl; exact rfl; exact rfl; omega)))
      | refine WC.seq ?_ | refine WC.region ?_ | refine WL.nil ?_ | refine WE.next ?_ | refine WC.block ?_ | refine WC.skip ?_ | refine WC.condT rfl ?_
    refine WC.ownNil 3 1 ?_
    refine WC.ownNil 3 1 ?_
    refine WC.ownNil 3 1 ?_
    refine WC.ownNil 3 1 ?_
    repeat refine WC.seq ?_
    refine WC.keep (xs := [.blk q0 (cfgC g).toArray 30, .blk b12 #[vs, (.slice none 0 0), vg, vr, (.slice none 0 0), i64 g.age, i64 g.brake, i64 g.hold, i64 g.budget] 30, .own 47 3 vs g.secs.length (g.secs.flatMap secC), .own 70 2 vg g.sigs.length (g.sigs.flatMap sigC), .own 3 1 vr g.crs.length (g.crs.map i64), .blk mb #[vs, (.slice none 0 0), vg, vr, (.slice none 0 0), i64 g.age, i64 g.brake, i64 g.hold, i64 g.budget, vv] 73, .own 74 1 vv ps.length ((vsOf g ps).map vPtr), .own 3 1 (.slice none 0 0) 0 [], .own 3 1 (.slice none 0 0) 0 [], .own 3 1 (.slice none 0 0) 0 [], .own 3 1 (.slice none 0 0) 0 [], sepL ((vsOf g ps).map voiceH)]) (by repeat constructor) ?_
    apply WC.par _ (fun c : Ch => [.blk q0 (cfgC g).toArray 30, .blk b12 #[vs, (.slice none 0 0), vg, vr, (.slice none 0 0), i64 g.age, i64 g.brake, i64 g.hold, i64 g.budget] 30, .own 47 3 vs g.secs.length (g.secs.flatMap secC), .own 70 2 vg g.sigs.length (g.sigs.flatMap sigC), .own 3 1 vr g.crs.length (g.crs.map i64), .blk mb #[vs, (.slice none 0 0), vg, vr, (.slice none 0 0), i64 g.age, i64 g.brake, i64 g.hold, i64 g.budget, vv] 73, .blk mb #[vs, (.slice none 0 0), vg, vr, (.slice none 0 0), i64 g.age, i64 g.brake, i64 g.hold, i64 g.budget, (c 16).2] 73, .own 74 1 vv ps.length ((vsOf g ps).map vPtr), .blk (c 15).1 #[ptr (c 14).1 0] 74, .own 74 1 ((c 16).2) (ps.length + 1) ((vsOf g ps).map vPtr ++ [ptr (c 14).1 0]), .blk (c 9).1 #[i64 ((Rcv.new (ps.length : Int) g.age)).last, i64 ((Rcv.new (ps.length : Int) g.age)).lost, i64 ((Rcv.new (ps.length : Int) g.age)).num, i64 ((Rcv.new (ps.length : Int) g.age)).peer, i64 ((Rcv.new (ps.length : Int) g.age)).age] 85, .own 3 1 ((cA (c 12).2 0)) ((g.lS ps.length)).length (((g.lS ps.length)).map i64), .own 3 1 ((cA (c 12).2 1)) ((g.lP ps.length)).length (((g.lP ps.length)).map i64), .own 3 1 ((cA (c 12).2 2)) ((g.lC ps.length)).length (((g.lC ps.length)).map i64), .own 3 1 ((cA (c 12).2 3)) ((g.lG ps.length)).length (((g.lG ps.length)).map i64), .own 3 1 (.slice none 0 0) 0 [], .own 3 1 (.slice none 0 0) 0 [], .own 3 1 (.slice none 0 0) 0 [], .own 3 1 (.slice none 0 0) 0 [], .blk (c 14).1 #[ptr (c 9).1 0, cA (c 12).2 0, cA (c 12).2 1, cA (c 12).2 2, cA (c 12).2 3, (.slice none 0 0), (.slice none 0 0), (.slice none 0 0), (.slice none 0 0), i64 (-1)] 78, sepL ((vsOf g ps).map voiceH)]) [none, none, none, none, none, none, some 19, none, some 15, some 16, some 9, some 12, some 12, some 12, some 12, none, none, none, none, some 14, none] [none, none, none, none, none, some 19, none, some 16, some 16, none, none, none, none, none, none, none, none, none, none, none, none] [(9, fun x => ptr x.1 0), (12, fun x => .agg #[cA x.2 0, cA x.2 1, cA x.2 2, cA x.2 3]), (14, fun x => ptr x.1 0), (15, fun x => .slice (some ⟨x.1, 0, none⟩) 1 1), (16, fun x => x.2)] Try.mixed
    · (focus ((repeat (first | exact Restr.nil | (apply Restr.keep; exact rfl; exact rfl) | (apply Restr.drop; exact rfl))); done))
    · intro c; exact (by repeat constructor)
    · exact rfl
    · decide +kernel
    · decide +kernel
    · intro c
      (apply Par.quiet _ [true, true, true, true, true, true, false, false, false, false, false, false, false, false, false, true, true, true, true, false, true]; exact rfl; decide +kernel; exact rfl; intro R; refine ⟨_, (by repeat constructor), ?_⟩;
           (first | (apply EvW.move; exact rfl)))
      (apply Par.quiet _ [true, true, true, true, true, true, false, true, false, false, false, false, false, false, false, true, true, true, true, false, true]; exact rfl; decide +kernel; exact rfl; intro R; refine ⟨_, (by repeat constructor), ?_⟩;
           (first | (apply EvW.move; exact rfl)))
      (apply Par.quiet _ [true, true, true, true, true, true, false, true, false, false, false, false, false, false, false, true, true, true, true, false, true]; exact rfl; decide +kernel; exact rfl; intro R; refine ⟨_, (by repeat constructor), ?_⟩;
           (first | (apply EvW.nilPtr; exact rfl)))
      (apply Par.quiet _ [true, true, true, true, true, true, false, true, false, false, false, false, false, false, false, true, true, true, true, false, true]; exact rfl; decide +kernel; exact rfl; intro R; refine ⟨_, (by repeat constructor), ?_⟩;
           (first | (apply EvW.fieldAddr0; exact rfl; exact FldC.eq)))
      (apply Par.quiet _ [true, true, true, true, true, true, false, true, false, false, false, false, false, false, false, true, true, true, true, false, true]; exact rfl; decide +kernel; exact rfl; intro R; refine ⟨_, (by repeat constructor), ?_⟩;
           (first | (apply EvW.load; exact rfl; exact ScalC.eq; (focus ((repeat constructor); done)); exact rfl)))
      (apply Par.quiet _ [true, true, true, true, true, true, false, true, false, false, false, false, false, false, false, true, true, true, true, false, true]; exact rfl; decide +kernel; exact rfl; intro R; refine ⟨_, (by repeat constructor), ?_⟩;
           (first | (apply EvW.move; exact rfl)))
      (apply Par.quiet _ [true, true, true, true, true, true, false, true, false, false, false, false, false, false, false, true, true, true, true, false, true]; exact rfl; decide +kernel; exact rfl; intro R; refine ⟨_, (by repeat constructor), ?_⟩;
           (first | (apply EvW.fieldAddr0; exact rfl; exact FldC.eq)))
      (apply Par.quiet _ [true, true, true, true, true, true, false, true, false, false, false, false, false, false, false, true, true, true, true, false, true]; exact rfl; decide +kernel; exact rfl; intro R; refine ⟨_, (by repeat constructor), ?_⟩;
           (first | (apply EvW.fieldAddr; exact rfl; exact FldC.eq)))
      (apply Par.quiet _ [true, true, true, true, true, true, false, true, false, false, false, false, false, false, false, true, true, true, true, false, true]; exact rfl; decide +kernel; exact rfl; intro R; refine ⟨_, (by repeat constructor), ?_⟩;
           (first | (apply EvW.load; exact rfl; exact ScalC.eq; (focus ((repeat constructor); done)); exact rfl)))
      apply Par.new _ [false, false, false, false, false, false, false, false, false, false, false, false, false, false, false, false, false, false, false, false, false] [false, false, false, false, false, false, false, false, false, false, true, false, false, false, false, false, false, false, false, false, false] [true, true, true, true, true, true, false, true, false, false, false, false, false, false, false, true, true, true, true, false, true]
      · exact rfl
      · exact rfl
      · decide +kernel
      · intro R
        refine ⟨_, _, _, (by repeat constructor), (by repeat constructor), (fun x => (by repeat constructor)), ?_⟩
        apply NewW.call (fun x => [.blk x.1 #[i64 ((Rcv.new (ps.length : Int) g.age)).last, i64 ((Rcv.new (ps.length : Int) g.age)).lost, i64 ((Rcv.new (ps.length : Int) g.age)).num, i64 ((Rcv.new (ps.length : Int) g.age)).peer, i64 ((Rcv.new (ps.length : Int) g.age)).age] 85])
        · exact rfl
        · exact fun w1 S1 hS1 hs1 ho1 => newReceiver_spec (ps.length : Int) g.age w1 S1 hS1
        · exact fun w => Try.call27 _ w
        · (focus ((repeat constructor); done))
        · rintro _ _ ⟨b, rfl, rfl⟩; exact ⟨(b, .bool true), rfl, rfl⟩
        · exact fun x _ h => TakeT.st (by (focus ((repeat (first | exact TakeT.tail | apply TakeT.cons | exact Take.head | apply Take.tail | apply TakeT.drop)); done))) h
      (apply Par.quiet _ [true, true, true, true, true, true, false, true, false, false, false, false, false, false, false, true, true, true, true, false, true]; exact rfl; decide +kernel; exact rfl; intro R; refine ⟨_, (by repeat constructor), ?_⟩;
           (first | (apply EvW.loadAgg; exact rfl; exact AggC.eq; exact SzC.eq; (focus ((repeat constructor); done)); (focus ((repeat (first | exact SubL.nil | apply SubL.cons | apply SubL.succ)); done)))))
      (apply Par.quiet _ [true, true, true, true, true, true, false, true, false, false, false, false, false, false, false, true, true, true, true, false, true]; exact rfl; decide +kernel; exact rfl; intro R; refine ⟨_, (by repeat constructor), ?_⟩;
           (first | (apply EvW.move; exact rfl)))
      apply Par.new _ [false, false, false, false, false, false, false, false, false, false, false, false, false, false, false, false, false, false, false, false, false] [false, false, false, false, false, false, false, false, false, false, false, true, true, true, true, false, false, false, false, false, false] [true, true, true, true, true, true, false, true, false, false, true, false, false, false, false, true, true, true, true, false, true]
      · exact rfl
      · exact rfl
      · decide +kernel
      · intro R
        refine ⟨_, _, _, (by repeat constructor), (by repeat constructor), (fun x => (by repeat constructor)), ?_⟩
        apply NewW.callA ([]) (fun x => [.own 3 1 ((cA x.2 0)) ((g.lS ps.length)).length (((g.lS ps.length)).map i64), .own 3 1 ((cA x.2 1)) ((g.lP ps.length)).length (((g.lP ps.length)).map i64), .own 3 1 ((cA x.2 2)) ((g.lC ps.length)).length (((g.lC ps.length)).map i64), .own 3 1 ((cA x.2 3)) ((g.lG ps.length)).length (((g.lG ps.length)).map i64)])
        · exact rfl
        · exact fun w => Try.call28 _ w
        · (focus ((repeat constructor); done))
        · exact fun w1 S1 hS1 hs1 ho1 => ownShape_spec g vs vg vr (ps.length : Int) w1 S1 hS1 (ho1 (.own 47 3 vs g.secs.length (g.secs.flatMap secC)) _ (by repeat constructor)) (ho1 (.own 70 2 vg g.sigs.length (g.sigs.flatMap sigC)) _ (by repeat constructor)) (ho1 (.own 3 1 vr g.crs.length (g.crs.map i64)) _ (by repeat constructor)) h.nS h.nG h.nC
        · rintro _ _ ⟨x1, x2, x3, x4, rfl, rfl⟩; exact ⟨(0, .agg #[x1, x2, x3, x4]), rfl, rfl⟩
        · exact fun x _ h => TakeT.st (by (focus ((repeat (first | exact TakeT.tail | apply TakeT.cons | exact Take.head | apply Take.tail | apply TakeT.drop)); done))) h
      (apply Par.quiet _ [true, true, true, true, true, true, false, true, false, false, true, true, true, true, true, true, true, true, true, false, true]; exact rfl; decide +kernel; exact rfl; intro R; refine ⟨_, (by repeat constructor), ?_⟩;
           (first | (apply EvW.build; exact PlC.eq; exact ZvC.eq; exact rfl; exact rfl; (focus ((repeat (first | exact Fills.nil | (apply Fills.cons; exact rfl; (first | assumption | exact rfl); exact rfl) | exact SetMany.nil | apply SetMany.cons | apply SetMany.succ)); done)))))
      (apply Par.new _ [false, false, false, false, false, false, false, false, false, false, false, false, false, false, false, false, false, false, false, false, false] [false, false, false, false, false, false, false, false, false, false, false, false, false, false, false, false, false, false, false, true, false] [true, true, true, true, true, true, false, true, false, false, true, true, true, true, true, true, true, true, true, false, true]; exact rfl; exact rfl; decide +kernel; intro R; refine ⟨_, _, _, (by repeat constructor), (by repeat constructor), (fun x => (by repeat constructor)), ?_⟩; (apply NewW.box; exact rfl; exact rfl; exact fun _ => rfl))
      (apply Par.new _ [false, false, false, false, false, false, false, false, false, false, false, false, false, false, false, false, false, false, false, false, false] [false, false, false, false, false, false, false, false, true, false, false, false, false, false, false, false, false, false, false, false, false] [true, true, true, true, true, true, false, true, false, false, true, true, true, true, true, true, true, true, true, true, true]; exact rfl; exact rfl; decide +kernel; intro R; refine ⟨_, _, _, (by repeat constructor), (by repeat constructor), (fun x => (by repeat constructor)), ?_⟩; (apply NewW.buildSlice; exact UndC.eq; exact SzC.eq; exact ZvC.eq; exact rfl; exact rfl; exact rfl; (focus ((repeat (first | exact Flat.nil | (apply Flat.one; (first | exact rfl | assumption)) | (apply Flat.cons; exact rfl; exact rfl))); done)); exact rfl; exact rfl; exact fun _ => rfl))
      apply Par.new _ [false, false, false, false, false, false, false, true, true, false, false, false, false, false, false, false, false, false, false, false, false] [false, false, false, false, false, false, false, false, false, true, false, false, false, false, false, false, false, false, false, false, false] [true, true, true, true, true, true, false, false, false, false, true, true, true, true, true, true, true, true, true, true, true]
      · exact rfl
      · exact rfl
      · decide +kernel
      · intro R
        refine ⟨_, _, _, (by repeat constructor), (by repeat constructor), (fun x => (by repeat constructor)), ?_⟩
        (apply NewW.append; exact rfl; exact rfl; exact UndC.eq; exact SzC.eq; exact ByC.eq; exact ZvC.eq; exact rfl; (first | exact notInt_sl UndC.eq | exact notInt_st UndC.eq); exact rfl; (focus ((repeat constructor); done)))
        · exact adds_blk (by repeat constructor) rfl rfl
        · (omega)
        · exact fun _ _ h => TakeT.st (by (focus ((repeat (first | exact TakeT.tail | apply TakeT.cons | exact Take.head | apply Take.tail | apply TakeT.drop)); done))) h
      (apply Par.quiet _ [true, true, true, true, true, true, false, false, false, true, true, true, true, true, true, true, true, true, true, true, true]; exact rfl; decide +kernel; exact rfl; intro R; refine ⟨_, (by repeat constructor), ?_⟩;
           (first | (apply EvW.nilPtr; exact rfl)))
      (apply Par.quiet _ [true, true, true, true, true, true, false, false, false, true, true, true, true, true, true, true, true, true, true, true, true]; exact rfl; decide +kernel; exact rfl; intro R; refine ⟨_, (by repeat constructor), ?_⟩;
           (first | (apply EvW.fieldAddr0; exact rfl; exact FldC.eq)))
      apply Par.eff _ [false, false, false, false, false, true, false, false, false, false, false, false, false, false, false, false, false, false, false, false, false] [false, false, false, false, false, false, true, false, false, false, false, false, false, false, false, false, false, false, false, false, false] [true, true, true, true, true, false, false, false, false, true, true, true, true, true, true, true, true, true, true, true, true]
      · exact rfl
      · exact rfl
      · decide +kernel
      · intro R
        refine ⟨_, _, _, (by repeat constructor), (by repeat constructor), (by repeat constructor), ?_⟩
        (apply EffW.storeSl; exact rfl; exact rfl; (focus ((repeat constructor); done)); exact SzC.eq; (focus ((repeat constructor); done)))
      exact Par.nil
    · repeat (first | exact AllN.nil | (apply AllN.cons; (intro c x; (repeat (first | exact IndA.nil | (apply IndA.skip; decide +kernel) | apply IndA.same))))) 
    · repeat (first | exact AllN.nil | (apply AllN.cons; (intro c x; (repeat (first | exact IndT.nil | (apply IndT.skip; decide +kernel) | apply IndT.same))))) 
    · exact fun _ => rfl
    intro c
    refine ⟨_, (by repeat constructor), ?_⟩
    apply WE.writ
    · (focus ((repeat (first | exact Writ.nil | apply Writ.some | apply Writ.none)); done))
    generalize (c 9).1 = b9
    generalize (c 12).1 = b12
    generalize (c 14).1 = b14
    generalize (c 15).1 = b15
    generalize (c 12).2 = sv
    generalize (c 16).2 = vv2
    obtain ⟨p, hp⟩ : ∃ p, Value.agg #[ptr b14 0, ptr b9 0, sv] = p := ⟨_, rfl⟩
    have hpv : newV g ps.length (.agg #[ptr b14 0, ptr b9 0, sv]) = newV g ps.length p := by rw [hp]
    refine WE.pack (L := [.blk ((newV g ps.length (.agg #[ptr b14 0, ptr b9 0, sv]))).b #[ptr ((newV g ps.length (.agg #[ptr b14 0, ptr b9 0, sv]))).r 0, ((newV g ps.length (.agg #[ptr b14 0, ptr b9 0, sv]))).sh.a, ((newV g ps.length (.agg #[ptr b14 0, ptr b9 0, sv]))).sh.b, ((newV g ps.length (.agg #[ptr b14 0, ptr b9 0, sv]))).sh.y, ((newV g ps.length (.agg #[ptr b14 0, ptr b9 0, sv]))).sh.d, ((newV g ps.length (.agg #[ptr b14 0, ptr b9 0, sv]))).sd.a, ((newV g ps.length (.agg #[ptr b14 0, ptr b9 0, sv]))).sd.b, ((newV g ps.length (.agg #[ptr b14 0, ptr b9 0, sv]))).sd.y, ((newV g ps.length (.agg #[ptr b14 0, ptr b9 0, sv]))).sd.d, i64 ((newV g ps.length (.agg #[ptr b14 0, ptr b9 0, sv]))).stamp] 78, .blk b9 #[i64 ((Rcv.new (ps.length : Int) g.age)).last, i64 ((Rcv.new (ps.length : Int) g.age)).lost, i64 ((Rcv.new (ps.length : Int) g.age)).num, i64 ((Rcv.new (ps.length : Int) g.age)).peer, i64 ((Rcv.new (ps.length : Int) g.age)).age] 85, .own 3 1 ((cA sv 0)) ((g.lS ps.length)).length (((g.lS ps.length)).map i64), .own 3 1 ((cA sv 1)) ((g.lP ps.length)).length (((g.lP ps.length)).map i64), .own 3 1 ((cA sv 2)) ((g.lC ps.length)).length (((g.lC ps.length)).map i64), .own 3 1 ((cA sv 3)) ((g.lG ps.length)).length (((g.lG ps.length)).map i64), .own 3 1 (.slice none 0 0) 0 [], .own 3 1 (.slice none 0 0) 0 [], .own 3 1 (.slice none 0 0) 0 [], .own 3 1 (.slice none 0 0) 0 []]) (by repeat constructor) ?_
    refine WE.back (z := voiceH (newV g ps.length (.agg #[ptr b14 0, ptr b9 0, sv]))) (by repeat constructor) (take_map_last voiceH _ (vsOf g ps)) ?_
    rw [show (vsOf g ps).map vPtr ++ [ptr b14 0] = (vsOf g ps ++ [newV g ps.length (.agg #[ptr b14 0, ptr b9 0, sv])]).map vPtr from by rw [List.map_append]; rfl, hpv, ← vsOf_snoc]
    repeat first
      | (apply WL.q; exact rfl; exact rfl; exact rfl; (first | (apply EvW.move; exact rfl) | (apply EvW.arN; exact rfl; exact rfl; exact rfl; refine i64_in ?_ ?_ <;> omega)))
      | refine WC.region ?_ | refine WL.nil ?_ | refine WE.next ?_ | refine WE.out ?_
    exact WE.again (s := (ps.length, vv, ps)) ((ps.length + 1, vv2, ps ++ [p])) ⟨by simp only []; omega, by simp⟩ (by (focus ((repeat (first | exact trivial | (refine ⟨rfl, ?_⟩))); done))) (fun _ h => (by (try simp only []); exact h.keep (by repeat constructor))) (by (try simp only []); omega)
  · have hl4 : ps.length = 4 := by omega
    rw [vsOf_four g ps hl4, hl4]
    repeat first
      | (apply WL.q; exact rfl; exact rfl; exact rfl; (first | (apply EvW.move; exact rfl) | (apply EvW.assign; exact rfl) | (apply EvW.cmpF; exact rfl; exact rfl; exact rfl; omega)))
      | refine WC.seq ?_ | refine WC.region ?_ | refine WL.nil ?_ | refine WE.next ?_ | refine WC.exit ?_ | refine WE.pass ?_ | refine WE.hit ?_ | refine WC.condF rfl ?_ | refine WC.ret ?_
    refine WE.pack (L := [.blk mb #[vs, (.slice none 0 0), vg, vr, (.slice none 0 0), i64 g.age, i64 g.brake, i64 g.hold, i64 g.budget, vv] 73, .own 47 3 vs g.secs.length (g.secs.flatMap secC), .own 70 2 vg g.sigs.length (g.sigs.flatMap sigC), .own 3 1 vr g.crs.length (g.crs.map i64), .own 74 1 vv 4 ((([0, 1, 2, 3] : List Nat).map fun k => newV g k (cA (.agg ps.toArray) k)).map vPtr), sepL ((([0, 1, 2, 3] : List Nat).map fun k => newV g k (cA (.agg ps.toArray) k)).map voiceH)]) (by repeat constructor) ?_
    refine WE.keep (xs := [imgH (newI g (mb, .agg #[vs, vg, vr, vv, .agg ps.toArray]))]) (by repeat constructor) ?_
    refine WE.ret1 rfl rfl ?_
    exact ⟨(mb, .agg #[vs, vg, vr, vv, .agg ps.toArray]), rfl, rfl⟩
end Go.Proofs.Ytamofjpadnnppaa
