/- The law of what a receiver takes. -/
import Derived.Test.YtgcpoehchohleaaLinkE
namespace Go.Proofs.Ytgcpoehchohleaa
open Go.RowKit Go.BK

/-- What a receiver knows of the numbers that it took. -/
def Rel (m : Rcv) (ns : List Int) : Prop := (ns = [] ∧ m.last = -1 ∧ m.lost = 0) ∨ ∃ x t, ns = x :: t ∧ 0 ≤ m.last ∧ (m.num, m.lost) = t.foldl lostStep (x, 0)
theorem Rel.lost {m : Rcv} {ns : List Int} (h : Rel m ns) : Go.Proofs.Ytgcpoehchohleaa.lost ns = m.lost := by
  rcases h with ⟨rfl, _, h⟩ | ⟨x, t, rfl, _, h⟩
  · rw [h]; rfl
  · show (t.foldl lostStep (x, 0)).2 = m.lost
    rw [← h]
theorem Rel.bd {m : Rcv} {ns : List Int} (h : Rel m ns) : 0 ≤ m.lost ∧ m.lost ≤ 32767 * ns.length := by
  rcases h with ⟨rfl, _, h⟩ | ⟨x, t, rfl, _, h⟩
  · rw [h]; simp
  · have := lost_bd t (x, 0) (Int.le_refl _)
    rw [← h] at this
    simp only [List.length_cons] at this ⊢
    omega
theorem Rel.note {m : Rcv} {ns : List Int} (h : Rel m ns) {n s : Int} (hs : 0 ≤ s) : Rel (m.note n s) (ns ++ [n]) := by
  rcases h with ⟨rfl, h1, h2⟩ | ⟨x, t, rfl, h1, h2⟩
  · refine .inr ⟨n, [], rfl, by rw [note_last]; exact hs, ?_⟩
    unfold Rcv.note
    rw [if_neg (by omega)]
    show (n, m.lost) = (n, 0)
    rw [h2]
  · refine .inr ⟨x, t ++ [n], rfl, by rw [note_last]; exact hs, ?_⟩
    unfold Rcv.note
    rw [if_pos h1, List.foldl_append, ← h2]
    rfl
theorem Rel.step {m : Rcv} {ns : List Int} (h : Rel m ns) (now : Int) {x : Said} (e : Int) (hx : x.small) : Rel (takeF m now (x, e)).1 (numsF m now (x, e) ns) ∧ (numsF m now (x, e) ns).length ≤ ns.length + 1 := by
  unfold numsF takeF
  dsimp only
  by_cases he : e = 0
  rotate_left
  · rw [if_pos he]; dsimp only; rw [if_neg he]; exact ⟨h, Nat.le_succ _⟩
  rw [if_neg (fun k => k he)]
  by_cases hp : x.p = m.peer
  rotate_left
  · rw [if_pos hp]; exact ⟨h, Nat.le_succ _⟩
  rw [if_neg (fun k => k hp)]
  by_cases hn : now < x.s
  · rw [if_pos hn]; exact ⟨h, Nat.le_succ _⟩
  rw [if_neg hn]
  by_cases ha : m.age < now - x.s
  · rw [if_pos ha]; exact ⟨h, Nat.le_succ _⟩
  rw [if_neg ha]
  by_cases hz : x.s ≤ m.last
  · rw [if_pos hz]; exact ⟨h, Nat.le_succ _⟩
  rw [if_neg hz]
  exact ⟨h.note hx.s.1, by simp⟩
theorem linkTakes_law (p a : Int) (v : Value) (cs : List Come) (w : World) (S : BSet) (hS : (sepL []).sat S w) (hv : Sees w S (.row 2 v cs.length (cs.flatMap comeC))) (hn : cs.length ≤ 8796093022208) (hc : ∀ c ∈ cs, c.ok) :
    Tri Try.prog 8 #[i64 p, i64 a, v] w S fun u A => u = .bool true := by
  refine Tri.enter (l := [i64 p, i64 a, v]) Try.func8 rfl Try.ntmps8 rfl [(0, i64 p), (1, i64 a), (2, v)] (subA rfl) hS ?_
  repeat first
    | (apply WL.q; exact rfl; exact rfl; exact rfl; (first | (apply EvW.assign; exact rfl)))
    | refine WC.seq ?_ | refine WC.region ?_ | refine WL.nil ?_ | refine WE.next ?_
  try refine WL.wanted rfl rfl rfl ?_
  apply WL.callA ([])
  · exact rfl
  · exact rfl
  · exact fun w => Try.call10 _ w
  · (focus ((repeat (first | exact TakeL.nil | apply TakeL.cons | exact Take.head | apply Take.tail)); done))
  · exact fun w1 S1 hS1 hs1 ho1 => lives09_spec w1 S1 hS1
  rintro _ _ ⟨rfl, rfl⟩
  first | refine WL.app4 ?_ | refine WL.app3 ?_ | refine WL.app2 ?_ | refine WL.app1 ?_ | refine WL.app0 ?_ | skip
  repeat first
    | (apply WL.q; exact rfl; exact rfl; exact rfl; (first | (apply EvW.move; exact rfl) | (apply EvW.notT; exact rfl)))
    | refine WC.seq ?_ | refine WC.region ?_ | refine WL.nil ?_ | refine WE.next ?_ | refine WC.skip ?_ | refine WC.condF rfl ?_
  try refine WL.wanted rfl rfl rfl ?_
  apply WL.callA ([])
  · exact rfl
  · exact rfl
  · exact fun w => Try.call15 _ w
  · (focus ((repeat (first | exact TakeL.nil | apply TakeL.cons | exact Take.head | apply Take.tail)); done))
  · exact fun w1 S1 hS1 hs1 ho1 => newReceiver_spec p a w1 S1 hS1
  rintro _ _ ⟨b, rfl, rfl⟩
  first | refine WL.app4 ?_ | refine WL.app3 ?_ | refine WL.app2 ?_ | refine WL.app1 ?_ | refine WL.app0 ?_ | skip
  repeat first
    | (apply WL.q; exact rfl; exact rfl; exact rfl; (first | (apply EvW.move; exact rfl)))
  try refine WL.wanted rfl rfl rfl ?_
  apply WL.callA ([])
  · exact rfl
  · exact rfl
  · exact fun w => Try.call21 _ w
  · (focus ((repeat (first | exact TakeL.nil | apply TakeL.cons | exact Take.head | apply Take.tail)); done))
  · exact fun w1 S1 hS1 hs1 ho1 => rnew09_spec p a w1 S1 hS1
  rintro _ _ ⟨q, rfl, rfl⟩
  first | refine WL.app4 ?_ | refine WL.app3 ?_ | refine WL.app2 ?_ | refine WL.app1 ?_ | refine WL.app0 ?_ | skip
  repeat first
    | (apply WL.q; exact rfl; exact rfl; exact rfl; (first | (apply EvW.move; exact rfl)))
  try refine WL.wanted rfl rfl rfl ?_
  apply WL.callA ([])
  · exact rfl
  · exact rfl
  · exact fun w => Try.call15 _ w
  · (focus ((repeat (first | exact TakeL.nil | apply TakeL.cons | exact Take.head | apply Take.tail)); done))
  · exact fun w1 S1 hS1 hs1 ho1 => newReceiver_spec p a w1 S1 hS1
  rintro _ _ ⟨o, rfl, rfl⟩
  first | refine WL.app4 ?_ | refine WL.app3 ?_ | refine WL.app2 ?_ | refine WL.app1 ?_ | refine WL.app0 ?_ | skip
  repeat first
    | (apply WL.q; exact rfl; exact rfl; exact rfl; (first | (apply EvW.move; exact rfl) | (apply EvW.assign; exact rfl) | (apply EvW.lenRow; exact rfl; exact UndC.eq; assumption)))
    | refine WC.seq ?_ | refine WC.region ?_ | refine WL.nil ?_ | refine WE.next ?_ | refine WC.block ?_
  refine WC.loopK (σ := Nat × Rcv × List Int × Value) [7, 8, 9, 27, 28] (fun s => [(29, i64 s.1)]) (fun s => [.blk b #[i64 (s.2.1).last, i64 (s.2.1).lost, i64 (s.2.1).num, i64 (s.2.1).peer, i64 (s.2.1).age] 44, .blk q #[i64 (s.2.1).peer, i64 (s.2.1).age, i64 (s.2.1).last, s.2.2.2] 58, .own 3 1 (s.2.2.2) (s.2.2.1).length ((s.2.2.1).map i64), .blk o #[i64 (Rcv.new p a).last, i64 (Rcv.new p a).lost, i64 (Rcv.new p a).num, i64 (Rcv.new p a).peer, i64 (Rcv.new p a).age] 44]) (fun s => s.1 ≤ cs.length ∧ s.2.2.1.length ≤ s.1 ∧ Rel s.2.1 s.2.2.1) (fun s => cs.length - s.1) (0, Rcv.new p a, [], .slice none 0 0) (by (focus ((repeat (first | exact Pick.nil | (apply Pick.cons; exact rfl))); done))) (by (focus ((repeat (first | exact trivial | (refine ⟨rfl, ?_⟩))); done))) (fun _ h => h.keep (by (focus ((repeat (first | exact TakeL.nil | apply TakeL.cons | exact Take.head | apply Take.tail)); done)))) ⟨Nat.zero_le _, Nat.le_refl _, .inl ⟨rfl, rfl, rfl⟩⟩ (fun s hs => ?_)
  obtain ⟨i, m, ns, nv⟩ := s
  simp only [List.cons_append, List.nil_append] at hs ⊢
  obtain ⟨hi, hni, hR⟩ := hs
  by_cases hlt : (i : Int) < cs.length
  · have hx := come_at hc (show i < cs.length by omega)
    repeat first
      | (apply WL.q; exact rfl; exact rfl; exact rfl; (first | (apply EvW.cmpT; exact rfl; exact rfl; exact rfl; omega) | (apply EvW.idxRow; exact rfl; exact rfl; exact UndC.eq; exact SzC.eq; assumption; omega; omega)))
      | refine WC.seq ?_ | refine WC.region ?_ | refine WL.nil ?_ | refine WE.next ?_ | refine WC.block ?_ | refine WC.skip ?_ | refine WC.condT rfl ?_
    (apply WL.q; exact rfl; exact rfl; exact rfl; (apply EvW.ldElem (xs := cs) (z := (default : Come)) (f := comeC); exact rfl; exact AggC.eq; exact SzC.eq; exact rfl; exact fun _ => rfl; assumption; omega))
    try refine WL.wanted rfl rfl rfl ?_
    (apply WL.alloc; exact rfl; exact ZvC.eq; exact rfl; intro z)
    rw [show ((i : Nat) : Int).toNat = i from rfl]
    generalize cs.getD i default = x at hx
    obtain ⟨hx1, hx2⟩ := hx
    obtain ⟨y, f, hy⟩ : ∃ q e, readF x.t = (q, e) := ⟨_, _, rfl⟩
    have hbd := hR.bd
    obtain ⟨hR', hl'⟩ := hR.step x.now f (readF_small hy)
    obtain ⟨ns', hns⟩ : ∃ ns', numsF m x.now (y, f) ns = ns' := ⟨_, rfl⟩
    repeat first
      | (apply WL.q; exact rfl; exact rfl; exact rfl; (first | (apply EvW.move; exact rfl) | (apply EvW.fieldAddr0; exact rfl; exact FldC.eq) | (apply EvW.load; exact rfl; exact ScalC.eq; (focus ((repeat (first | exact Take.head | apply Take.tail)); done)); exact rfl)))
      | refine WC.seq ?_ | refine WC.region ?_ | refine WL.nil ?_ | refine WE.next ?_ | (apply WL.store; exact rfl; exact rfl; (first | assumption | exact rfl); exact SzC.eq; (first | assumption | exact rfl); (focus ((repeat (first | apply UpdC.head | apply UpdC.tail | exact SetMany.nil | apply SetMany.cons | apply SetMany.succ)); done)))
    try refine WL.wanted rfl rfl rfl ?_
    apply WL.callA ([.blk b #[i64 (m).last, i64 (m).lost, i64 (m).num, i64 (m).peer, i64 (m).age] 44])
    · exact rfl
    · exact rfl
    · exact fun w => Try.call16 _ w
    · (focus ((repeat (first | exact TakeL.nil | apply TakeL.cons | exact Take.head | apply Take.tail)); done))
    · exact fun w1 S1 hS1 hs1 ho1 => ltake_spec b m x.now x.t y f w1 S1 hS1 (by omega) (by omega) (by omega) hx1 hy
    rintro _ _ ⟨rfl, rfl⟩
    first | refine WL.app4 ?_ | refine WL.app3 ?_ | refine WL.app2 ?_ | refine WL.app1 ?_ | refine WL.app0 ?_ | skip
    repeat first
      | (apply WL.q; exact rfl; exact rfl; exact rfl; (first | (apply EvW.move; exact rfl) | (apply EvW.assign; exact rfl) | (apply EvW.fieldAddr0; exact rfl; exact FldC.eq) | (apply EvW.load; exact rfl; exact ScalC.eq; (focus ((repeat (first | exact Take.head | apply Take.tail)); done)); exact rfl) | (apply EvW.extract; exact rfl; exact rfl)))
      | refine WC.seq ?_ | refine WC.region ?_ | refine WL.nil ?_ | refine WE.next ?_
    try refine WL.wanted rfl rfl rfl ?_
    apply WL.callA ([.blk q #[i64 (m).peer, i64 (m).age, i64 (m).last, nv] 58, .own 3 1 (nv) (ns).length ((ns).map i64)])
    · exact rfl
    · exact rfl
    · exact fun w => Try.call22 _ w
    · (focus ((repeat (first | exact TakeL.nil | apply TakeL.cons | exact Take.head | apply Take.tail)); done))
    · exact fun w1 S1 hS1 hs1 ho1 => rtake_spec q nv m ns x.now x.t y f w1 S1 hS1 (by omega) hx1 (by omega) hy
    rintro _ _ ⟨rfl, nv2, rfl⟩
    first | refine WL.app4 ?_ | refine WL.app3 ?_ | refine WL.app2 ?_ | refine WL.app1 ?_ | refine WL.app0 ?_ | skip
    rw [hns] at hR' hl' ⊢
    obtain ⟨m', pl, e, ht⟩ : ∃ m' pl e, takeF m x.now (y, f) = (m', pl, e) := ⟨_, _, _, rfl⟩
    rw [ht] at hR' ⊢
    dsimp only at hR' ⊢
    have hlo := hR'.lost
    have hbd' := hR'.bd
    repeat first
      | (apply WL.q; exact rfl; exact rfl; exact rfl; (first | (apply EvW.move; exact rfl) | (apply EvW.assign; exact rfl) | (apply EvW.extract; exact rfl; exact rfl)))
      | refine WC.seq ?_ | refine WL.nil ?_ | refine WE.next ?_
    repeat refine WC.seq ?_
    refine WC.keep (xs := [.blk z #[i64 x.now, str x.t] 38, .blk b #[i64 (m').last, i64 (m').lost, i64 (m').num, i64 (m').peer, i64 (m').age] 44, .blk q #[i64 (m').peer, i64 (m').age, i64 (m').last, nv2] 58, .own 3 1 (nv2) (ns').length ((ns').map i64), .blk o #[i64 (Rcv.new p a).last, i64 (Rcv.new p a).lost, i64 (Rcv.new p a).num, i64 (Rcv.new p a).peer, i64 (Rcv.new p a).age] 44]) (by (focus ((repeat (first | exact TakeL.nil | apply TakeL.cons | exact Take.head | apply Take.tail)); done))) ?_
    apply WC.par _ (fun c : Ch => [.blk z #[i64 x.now, str x.t] 38, .blk b #[i64 (m').last, i64 (m').lost, i64 (m').num, i64 (m').peer, i64 (m').age] 44, .blk b #[i64 (m').last, i64 (m').lost, i64 (m').num, i64 (m').peer, i64 (m').age] 44, .blk b #[i64 (m').last, i64 (m').lost, i64 (m').num, i64 (m').peer, i64 (m').age] 44, .blk b #[i64 (m').last, i64 (m').lost, i64 (m').num, i64 (m').peer, i64 (m').age] 44, .blk q #[i64 (m').peer, i64 (m').age, i64 (m').last, nv2] 58, .own 3 1 (nv2) (ns').length ((ns').map i64), .blk q #[i64 (m').peer, i64 (m').age, i64 (m').last, nv2] 58, .own 3 1 (nv2) (ns').length ((ns').map i64), .blk q #[i64 (m').peer, i64 (m').age, i64 (m').last, nv2] 58, .own 3 1 (nv2) (ns').length ((ns').map i64), .blk o #[i64 (Rcv.new p a).last, i64 (Rcv.new p a).lost, i64 (Rcv.new p a).num, i64 (Rcv.new p a).peer, i64 (Rcv.new p a).age] 44]) [none, none, some 12, some 23, some 34, none, none, some 27, some 27, some 36, some 36, none] [none, some 12, some 23, some 34, none, some 27, some 27, some 36, some 36, none, none, none] [] Try.mixed
    · (focus ((repeat (first | exact Restr.nil | (apply Restr.keep; exact rfl; exact rfl) | (apply Restr.drop; exact rfl))); done))
    · intro c; exact (by (focus ((repeat (first | exact SelT.nil | apply SelT.yes | apply SelT.no)); done)))
    · exact rfl
    · decide +kernel
    · decide +kernel
    · intro c
      (apply Par.quiet _ [true, true, false, false, false, true, true, false, false, false, false, true]; exact rfl; decide +kernel; exact rfl; intro R; refine ⟨_, (by (focus ((repeat (first | exact SelT.nil | apply SelT.yes | apply SelT.no)); done))), ?_⟩;
           (first | (apply EvW.move; exact rfl)))
      (apply Par.quiet _ [true, true, false, false, false, true, true, false, false, false, false, true]; exact rfl; decide +kernel; exact rfl; intro R; refine ⟨_, (by (focus ((repeat (first | exact SelT.nil | apply SelT.yes | apply SelT.no)); done))), ?_⟩;
           (first | (apply EvW.move; exact rfl)))
      (apply Par.quiet _ [true, true, false, false, false, true, true, false, false, false, false, true]; exact rfl; decide +kernel; exact rfl; intro R; refine ⟨_, (by (focus ((repeat (first | exact SelT.nil | apply SelT.yes | apply SelT.no)); done))), ?_⟩;
           (first | (apply EvW.sneS; exact rfl; exact rfl)))
      (apply Par.quiet _ [true, true, false, false, false, true, true, false, false, false, false, true]; exact rfl; decide +kernel; exact rfl; intro R; refine ⟨_, (by (focus ((repeat (first | exact SelT.nil | apply SelT.yes | apply SelT.no)); done))), ?_⟩;
           (first | (apply EvW.move; exact rfl)))
      first
        | (apply Par.skip; exact rfl; decide +kernel; exact rfl)
        | (apply Par.quiet _ [true, true, false, false, false, true, true, false, false, false, false, true]; exact rfl; decide +kernel; exact rfl; intro R; refine ⟨_, (by (focus ((repeat (first | exact SelT.nil | apply SelT.yes | apply SelT.no)); done))), ?_⟩;
           (first | (apply EvW.move; exact rfl)))
      first
        | (apply Par.skip; exact rfl; decide +kernel; exact rfl)
        | (apply Par.quiet _ [true, true, false, false, false, true, true, false, false, false, false, true]; exact rfl; decide +kernel; exact rfl; intro R; refine ⟨_, (by (focus ((repeat (first | exact SelT.nil | apply SelT.yes | apply SelT.no)); done))), ?_⟩;
           (first | (apply EvW.move; exact rfl)))
      first
        | (apply Par.skip; exact rfl; decide +kernel; exact rfl)
        | (apply Par.quiet _ [true, true, false, false, false, true, true, false, false, false, false, true]; exact rfl; decide +kernel; exact rfl; intro R; refine ⟨_, (by (focus ((repeat (first | exact SelT.nil | apply SelT.yes | apply SelT.no)); done))), ?_⟩;
           (first | (apply EvW.cmpF; exact rfl; exact rfl; exact rfl; omega)))
      (apply Par.quiet _ [true, true, false, false, false, true, true, false, false, false, false, true]; exact rfl; decide +kernel; exact rfl; intro R; refine ⟨_, (by (focus ((repeat (first | exact SelT.nil | apply SelT.yes | apply SelT.no)); done))), ?_⟩;
           (first | (apply EvW.pickF; exact rfl; exact rfl)))
      (apply Par.quiet _ [true, true, false, false, false, true, true, false, false, false, false, true]; exact rfl; decide +kernel; exact rfl; intro R; refine ⟨_, (by (focus ((repeat (first | exact SelT.nil | apply SelT.yes | apply SelT.no)); done))), ?_⟩;
           (first | (apply EvW.move; exact rfl)))
      first
        | (apply Par.skip; exact rfl; decide +kernel; exact rfl)
        | (apply Par.quiet _ [true, true, false, false, false, true, true, false, false, false, false, true]; exact rfl; decide +kernel; exact rfl; intro R; refine ⟨_, (by (focus ((repeat (first | exact SelT.nil | apply SelT.yes | apply SelT.no)); done))), ?_⟩;
           (first | (apply EvW.move; exact rfl)))
      first
        | (apply Par.skip; exact rfl; decide +kernel; exact rfl)
        | (apply Par.quiet _ [true, true, false, false, false, true, true, false, false, false, false, true]; exact rfl; decide +kernel; exact rfl; intro R; refine ⟨_, (by (focus ((repeat (first | exact SelT.nil | apply SelT.yes | apply SelT.no)); done))), ?_⟩;
           (first | (apply EvW.nilPtr; exact rfl)))
      first
        | (apply Par.skip; exact rfl; decide +kernel; exact rfl)
        | (apply Par.quiet _ [true, true, false, false, false, true, true, false, false, false, false, true]; exact rfl; decide +kernel; exact rfl; intro R; refine ⟨_, (by (focus ((repeat (first | exact SelT.nil | apply SelT.yes | apply SelT.no)); done))), ?_⟩;
           (first | (apply EvW.fieldAddr0; exact rfl; exact FldC.eq)))
      apply Par.eff _ [false, true, false, false, false, false, false, false, false, false, false, false] [false, false, true, false, false, false, false, false, false, false, false, false] [true, false, false, false, false, true, true, false, false, false, false, true]
      · exact rfl
      · exact rfl
      · decide +kernel
      · intro R
        refine ⟨_, _, _, (by (focus ((repeat (first | exact SelT.nil | apply SelT.yes | apply SelT.no)); done))), (by (focus ((repeat (first | exact SelT.nil | apply SelT.yes | apply SelT.no)); done))), (by (focus ((repeat (first | exact SelT.nil | apply SelT.yes | apply SelT.no)); done))), ?_⟩
        apply EffW.callT
        · exact rfl
        · exact fun w1 S1 hS1 hs1 ho1 => last_spec b m' w1 S1 hS1
        · exact fun w => Try.call17 _ w
        · (focus ((repeat (first | exact TakeL.nil | apply TakeL.cons | exact Take.head | apply Take.tail)); done))
        · exact fun _ _ h => h
        · exact fun _ h => TakeT.st (by (focus ((repeat (first | exact TakeT.tail | apply TakeT.cons | exact Take.head | apply Take.tail | apply TakeT.drop)); done))) h
      first
        | (apply Par.skip; exact rfl; decide +kernel; exact rfl)
        | (apply Par.quiet _ [true, false, false, false, false, true, true, false, false, false, false, true]; exact rfl; decide +kernel; exact rfl; intro R; refine ⟨_, (by (focus ((repeat (first | exact SelT.nil | apply SelT.yes | apply SelT.no)); done))), ?_⟩;
           (first | (apply EvW.move; exact rfl)))
      first
        | (apply Par.skip; exact rfl; decide +kernel; exact rfl)
        | (apply Par.quiet _ [true, false, false, false, false, true, true, false, false, false, false, true]; exact rfl; decide +kernel; exact rfl; intro R; refine ⟨_, (by (focus ((repeat (first | exact SelT.nil | apply SelT.yes | apply SelT.no)); done))), ?_⟩;
           (first | (apply EvW.nilPtr; exact rfl)))
      first
        | (apply Par.skip; exact rfl; decide +kernel; exact rfl)
        | (apply Par.quiet _ [true, false, false, false, false, true, true, false, false, false, false, true]; exact rfl; decide +kernel; exact rfl; intro R; refine ⟨_, (by (focus ((repeat (first | exact SelT.nil | apply SelT.yes | apply SelT.no)); done))), ?_⟩;
           (first | (apply EvW.fieldAddr0; exact rfl; exact FldC.eq)))
      first
        | (apply Par.skip; exact rfl; decide +kernel; exact rfl)
        | (apply Par.quiet _ [true, false, false, false, false, true, true, false, false, false, false, true]; exact rfl; decide +kernel; exact rfl; intro R; refine ⟨_, (by (focus ((repeat (first | exact SelT.nil | apply SelT.yes | apply SelT.no)); done))), ?_⟩;
           (first | (apply EvW.load; exact rfl; exact ScalC.eq; (focus ((repeat (first | exact Take.head | apply Take.tail)); done)); exact rfl)))
      first
        | (apply Par.skip; exact rfl; decide +kernel; exact rfl)
        | (apply Par.quiet _ [true, false, true, false, false, true, true, false, false, false, false, true]; exact rfl; decide +kernel; exact rfl; intro R; refine ⟨_, (by (focus ((repeat (first | exact SelT.nil | apply SelT.yes | apply SelT.no)); done))), ?_⟩;
           (first | (apply EvW.cmpF; exact rfl; exact rfl; exact rfl; omega)))
      (apply Par.quiet _ [true, false, true, false, false, true, true, false, false, false, false, true]; exact rfl; decide +kernel; exact rfl; intro R; refine ⟨_, (by (focus ((repeat (first | exact SelT.nil | apply SelT.yes | apply SelT.no)); done))), ?_⟩;
           (first | (apply EvW.pickF; exact rfl; exact rfl)))
      (apply Par.quiet _ [true, false, true, false, false, true, true, false, false, false, false, true]; exact rfl; decide +kernel; exact rfl; intro R; refine ⟨_, (by (focus ((repeat (first | exact SelT.nil | apply SelT.yes | apply SelT.no)); done))), ?_⟩;
           (first | (apply EvW.move; exact rfl)))
      first
        | (apply Par.skip; exact rfl; decide +kernel; exact rfl)
        | (apply Par.quiet _ [true, false, true, false, false, true, true, false, false, false, false, true]; exact rfl; decide +kernel; exact rfl; intro R; refine ⟨_, (by (focus ((repeat (first | exact SelT.nil | apply SelT.yes | apply SelT.no)); done))), ?_⟩;
           (first | (apply EvW.move; exact rfl)))
      first
        | (apply Par.skip; exact rfl; decide +kernel; exact rfl)
        | (apply Par.quiet _ [true, false, true, false, false, true, true, false, false, false, false, true]; exact rfl; decide +kernel; exact rfl; intro R; refine ⟨_, (by (focus ((repeat (first | exact SelT.nil | apply SelT.yes | apply SelT.no)); done))), ?_⟩;
           (first | (apply EvW.fieldAddr0; exact rfl; exact FldC.eq)))
      first
        | (apply Par.skip; exact rfl; decide +kernel; exact rfl)
        | (apply Par.quiet _ [true, false, true, false, false, true, true, false, false, false, false, true]; exact rfl; decide +kernel; exact rfl; intro R; refine ⟨_, (by (focus ((repeat (first | exact SelT.nil | apply SelT.yes | apply SelT.no)); done))), ?_⟩;
           (first | (apply EvW.load; exact rfl; exact ScalC.eq; (focus ((repeat (first | exact Take.head | apply Take.tail)); done)); exact rfl)))
      apply Par.eff _ [false, false, true, false, false, false, false, false, false, false, false, false] [false, false, false, true, false, false, false, false, false, false, false, false] [true, false, false, false, false, true, true, false, false, false, false, true]
      · exact rfl
      · exact rfl
      · decide +kernel
      · intro R
        refine ⟨_, _, _, (by (focus ((repeat (first | exact SelT.nil | apply SelT.yes | apply SelT.no)); done))), (by (focus ((repeat (first | exact SelT.nil | apply SelT.yes | apply SelT.no)); done))), (by (focus ((repeat (first | exact SelT.nil | apply SelT.yes | apply SelT.no)); done))), ?_⟩
        apply EffW.callT
        · exact rfl
        · exact fun w1 S1 hS1 hs1 ho1 => alive_spec b m' x.now w1 S1 hS1 hx1
        · exact fun w => Try.call20 _ w
        · (focus ((repeat (first | exact TakeL.nil | apply TakeL.cons | exact Take.head | apply Take.tail)); done))
        · exact fun _ _ h => h
        · exact fun _ h => TakeT.st (by (focus ((repeat (first | exact TakeT.tail | apply TakeT.cons | exact Take.head | apply Take.tail | apply TakeT.drop)); done))) h
      first
        | (apply Par.skip; exact rfl; decide +kernel; exact rfl)
        | (apply Par.quiet _ [true, false, false, false, false, true, true, false, false, false, false, true]; exact rfl; decide +kernel; exact rfl; intro R; refine ⟨_, (by (focus ((repeat (first | exact SelT.nil | apply SelT.yes | apply SelT.no)); done))), ?_⟩;
           (first | (apply EvW.move; exact rfl)))
      first
        | (apply Par.skip; exact rfl; decide +kernel; exact rfl)
        | (apply Par.quiet _ [true, false, false, false, false, true, true, false, false, false, false, true]; exact rfl; decide +kernel; exact rfl; intro R; refine ⟨_, (by (focus ((repeat (first | exact SelT.nil | apply SelT.yes | apply SelT.no)); done))), ?_⟩;
           (first | (apply EvW.fieldAddr0; exact rfl; exact FldC.eq)))
      first
        | (apply Par.skip; exact rfl; decide +kernel; exact rfl)
        | (apply Par.quiet _ [true, false, false, false, false, true, true, false, false, false, false, true]; exact rfl; decide +kernel; exact rfl; intro R; refine ⟨_, (by (focus ((repeat (first | exact SelT.nil | apply SelT.yes | apply SelT.no)); done))), ?_⟩;
           (first | (apply EvW.load; exact rfl; exact ScalC.eq; (focus ((repeat (first | exact Take.head | apply Take.tail)); done)); exact rfl)))
      apply Par.eff _ [false, false, false, false, false, true, true, false, false, false, false, false] [false, false, false, false, false, false, false, true, true, false, false, false] [true, false, false, true, false, false, false, false, false, false, false, true]
      · exact rfl
      · exact rfl
      · decide +kernel
      · intro R
        refine ⟨_, _, _, (by (focus ((repeat (first | exact SelT.nil | apply SelT.yes | apply SelT.no)); done))), (by (focus ((repeat (first | exact SelT.nil | apply SelT.yes | apply SelT.no)); done))), (by (focus ((repeat (first | exact SelT.nil | apply SelT.yes | apply SelT.no)); done))), ?_⟩
        apply EffW.callT
        · exact rfl
        · exact fun w1 S1 hS1 hs1 ho1 => ralive_spec q nv2 m' ns' x.now w1 S1 hS1 hx1
        · exact fun w => Try.call23 _ w
        · (focus ((repeat (first | exact TakeL.nil | apply TakeL.cons | exact Take.head | apply Take.tail)); done))
        · exact fun _ _ h => h
        · exact fun _ h => TakeT.st (by (focus ((repeat (first | exact TakeT.tail | apply TakeT.cons | exact Take.head | apply Take.tail | apply TakeT.drop)); done))) h
      first
        | (apply Par.skip; exact rfl; decide +kernel; exact rfl)
        | (apply Par.quiet _ [true, false, false, true, false, false, false, true, true, false, false, true]; exact rfl; decide +kernel; exact rfl; intro R; refine ⟨_, (by (focus ((repeat (first | exact SelT.nil | apply SelT.yes | apply SelT.no)); done))), ?_⟩;
           (first | (apply EvW.bneS; exact rfl; exact rfl; exact UndC.eq)))
      (apply Par.quiet _ [true, false, false, true, false, false, false, true, true, false, false, true]; exact rfl; decide +kernel; exact rfl; intro R; refine ⟨_, (by (focus ((repeat (first | exact SelT.nil | apply SelT.yes | apply SelT.no)); done))), ?_⟩;
           (first | (apply EvW.pickF; exact rfl; exact rfl)))
      (apply Par.quiet _ [true, false, false, true, false, false, false, true, true, false, false, true]; exact rfl; decide +kernel; exact rfl; intro R; refine ⟨_, (by (focus ((repeat (first | exact SelT.nil | apply SelT.yes | apply SelT.no)); done))), ?_⟩;
           (first | (apply EvW.move; exact rfl)))
      first
        | (apply Par.skip; exact rfl; decide +kernel; exact rfl)
        | (apply Par.quiet _ [true, false, false, true, false, false, false, true, true, false, false, true]; exact rfl; decide +kernel; exact rfl; intro R; refine ⟨_, (by (focus ((repeat (first | exact SelT.nil | apply SelT.yes | apply SelT.no)); done))), ?_⟩;
           (first | (apply EvW.move; exact rfl)))
      first
        | (apply Par.skip; exact rfl; decide +kernel; exact rfl)
        | (apply Par.quiet _ [true, false, false, true, false, false, false, true, true, false, false, true]; exact rfl; decide +kernel; exact rfl; intro R; refine ⟨_, (by (focus ((repeat (first | exact SelT.nil | apply SelT.yes | apply SelT.no)); done))), ?_⟩;
           (first | (apply EvW.nilPtr; exact rfl)))
      first
        | (apply Par.skip; exact rfl; decide +kernel; exact rfl)
        | (apply Par.quiet _ [true, false, false, true, false, false, false, true, true, false, false, true]; exact rfl; decide +kernel; exact rfl; intro R; refine ⟨_, (by (focus ((repeat (first | exact SelT.nil | apply SelT.yes | apply SelT.no)); done))), ?_⟩;
           (first | (apply EvW.fieldAddr0; exact rfl; exact FldC.eq)))
      apply Par.eff _ [false, false, false, true, false, false, false, false, false, false, false, false] [false, false, false, false, true, false, false, false, false, false, false, false] [true, false, false, false, false, false, false, true, true, false, false, true]
      · exact rfl
      · exact rfl
      · decide +kernel
      · intro R
        refine ⟨_, _, _, (by (focus ((repeat (first | exact SelT.nil | apply SelT.yes | apply SelT.no)); done))), (by (focus ((repeat (first | exact SelT.nil | apply SelT.yes | apply SelT.no)); done))), (by (focus ((repeat (first | exact SelT.nil | apply SelT.yes | apply SelT.no)); done))), ?_⟩
        apply EffW.callT
        · exact rfl
        · exact fun w1 S1 hS1 hs1 ho1 => rcvLost_spec b m' w1 S1 hS1
        · exact fun w => Try.call24 _ w
        · (focus ((repeat (first | exact TakeL.nil | apply TakeL.cons | exact Take.head | apply Take.tail)); done))
        · exact fun _ _ h => h
        · exact fun _ h => TakeT.st (by (focus ((repeat (first | exact TakeT.tail | apply TakeT.cons | exact Take.head | apply Take.tail | apply TakeT.drop)); done))) h
      first
        | (apply Par.skip; exact rfl; decide +kernel; exact rfl)
        | (apply Par.quiet _ [true, false, false, false, false, false, false, true, true, false, false, true]; exact rfl; decide +kernel; exact rfl; intro R; refine ⟨_, (by (focus ((repeat (first | exact SelT.nil | apply SelT.yes | apply SelT.no)); done))), ?_⟩;
           (first | (apply EvW.move; exact rfl)))
      apply Par.eff _ [false, false, false, false, false, false, false, true, true, false, false, false] [false, false, false, false, false, false, false, false, false, true, true, false] [true, false, false, false, true, false, false, false, false, false, false, true]
      · exact rfl
      · exact rfl
      · decide +kernel
      · intro R
        refine ⟨_, _, _, (by (focus ((repeat (first | exact SelT.nil | apply SelT.yes | apply SelT.no)); done))), (by (focus ((repeat (first | exact SelT.nil | apply SelT.yes | apply SelT.no)); done))), (by (focus ((repeat (first | exact SelT.nil | apply SelT.yes | apply SelT.no)); done))), ?_⟩
        apply EffW.callT
        · exact rfl
        · exact fun w1 S1 hS1 hs1 ho1 => (by have h := rlost_spec q nv2 m' ns' w1 S1 hS1 (by omega); rw [hlo] at h; exact h)
        · exact fun w => Try.call25 _ w
        · (focus ((repeat (first | exact TakeL.nil | apply TakeL.cons | exact Take.head | apply Take.tail)); done))
        · exact fun _ _ h => h
        · exact fun _ h => TakeT.st (by (focus ((repeat (first | exact TakeT.tail | apply TakeT.cons | exact Take.head | apply Take.tail | apply TakeT.drop)); done))) h
      first
        | (apply Par.skip; exact rfl; decide +kernel; exact rfl)
        | (apply Par.quiet _ [true, false, false, false, true, false, false, false, false, true, true, true]; exact rfl; decide +kernel; exact rfl; intro R; refine ⟨_, (by (focus ((repeat (first | exact SelT.nil | apply SelT.yes | apply SelT.no)); done))), ?_⟩;
           (first | (apply EvW.cmpF; exact rfl; exact rfl; exact rfl; omega)))
      (apply Par.quiet _ [true, false, false, false, true, false, false, false, false, true, true, true]; exact rfl; decide +kernel; exact rfl; intro R; refine ⟨_, (by (focus ((repeat (first | exact SelT.nil | apply SelT.yes | apply SelT.no)); done))), ?_⟩;
           (first | (apply EvW.pickF; exact rfl; exact rfl)))
      exact Par.nil
    · repeat (first | exact AllN.nil | (apply AllN.cons; (intro c x; (repeat (first | exact IndA.nil | (apply IndA.skip; decide +kernel) | apply IndA.same))))) 
    · repeat (first | exact AllN.nil | (apply AllN.cons; (intro c x; (repeat (first | exact IndT.nil | (apply IndT.skip; decide +kernel) | apply IndT.same))))) 
    · exact fun _ => rfl
    intro c
    refine ⟨_, (by (focus ((repeat (first | exact SelT.nil | apply SelT.yes | apply SelT.no)); done))), ?_⟩
    apply WE.writ
    · (focus ((repeat (first | exact Writ.nil | apply Writ.some | apply Writ.none)); done))
    repeat first
      | (apply WL.q; exact rfl; exact rfl; exact rfl; (first | (apply EvW.move; exact rfl) | (apply EvW.arN; exact rfl; exact rfl; exact rfl; refine i64_in ?_ ?_ <;> omega)))
      | refine WC.region ?_ | refine WL.nil ?_ | refine WE.next ?_ | refine WC.skip ?_ | refine WE.out ?_ | refine WC.condF rfl ?_
    exact WE.again (s := (i, m, ns, nv)) ((i + 1, m', ns', nv2)) ⟨by simp only []; omega, by simp only []; omega, hR'⟩ (by (focus ((repeat (first | exact trivial | (refine ⟨rfl, ?_⟩))); done))) (fun _ h => (by (try simp only []); exact h.keep (by (focus ((repeat (first | exact TakeL.nil | apply TakeL.cons | exact Take.head | apply Take.tail)); done))))) (by (try simp only []); omega)
  · repeat first
      | (apply WL.q; exact rfl; exact rfl; exact rfl; (first | (apply EvW.move; exact rfl) | (apply EvW.nilPtr; exact rfl) | (apply EvW.fieldAddr0; exact rfl; exact FldC.eq) | (apply EvW.cmpF; exact rfl; exact rfl; exact rfl; omega)))
      | refine WC.seq ?_ | refine WC.region ?_ | refine WL.nil ?_ | refine WE.next ?_ | refine WC.exit ?_ | refine WE.pass ?_ | refine WE.hit ?_ | refine WC.condF rfl ?_
    try refine WL.wanted rfl rfl rfl ?_
    apply WL.callA ([.blk o #[i64 (Rcv.new p a).last, i64 (Rcv.new p a).lost, i64 (Rcv.new p a).num, i64 (Rcv.new p a).peer, i64 (Rcv.new p a).age] 44])
    · exact rfl
    · exact rfl
    · exact fun w => Try.call17 _ w
    · (focus ((repeat (first | exact TakeL.nil | apply TakeL.cons | exact Take.head | apply Take.tail)); done))
    · exact fun w1 S1 hS1 hs1 ho1 => last_spec o (Rcv.new p a) w1 S1 hS1
    rintro _ _ ⟨rfl, rfl⟩
    first | refine WL.app4 ?_ | refine WL.app3 ?_ | refine WL.app2 ?_ | refine WL.app1 ?_ | refine WL.app0 ?_ | skip
    repeat first
      | (apply WL.q; exact rfl; exact rfl; exact rfl; (first | (apply EvW.move; exact rfl) | (apply EvW.nilPtr; exact rfl) | (apply EvW.fieldAddr0; exact rfl; exact FldC.eq) | (apply EvW.cmp; exact rfl; exact rfl; exact rfl)))
      | refine WL.wanted rfl rfl rfl ?_
    try refine WL.wanted rfl rfl rfl ?_
    apply WL.callA ([.blk o #[i64 (Rcv.new p a).last, i64 (Rcv.new p a).lost, i64 (Rcv.new p a).num, i64 (Rcv.new p a).peer, i64 (Rcv.new p a).age] 44])
    · exact rfl
    · exact rfl
    · exact fun w => Try.call24 _ w
    · (focus ((repeat (first | exact TakeL.nil | apply TakeL.cons | exact Take.head | apply Take.tail)); done))
    · exact fun w1 S1 hS1 hs1 ho1 => rcvLost_spec o (Rcv.new p a) w1 S1 hS1
    rintro _ _ ⟨rfl, rfl⟩
    first | refine WL.app4 ?_ | refine WL.app3 ?_ | refine WL.app2 ?_ | refine WL.app1 ?_ | refine WL.app0 ?_ | skip
    repeat first
      | (apply WL.q; exact rfl; exact rfl; exact rfl; (first | (apply EvW.assign; exact rfl) | (apply EvW.cmp; exact rfl; exact rfl; exact rfl) | (apply EvW.pickT; exact rfl; exact rfl)))
      | refine WL.nil ?_ | refine WE.next ?_ | refine WC.ret ?_ | refine WL.wanted rfl rfl rfl ?_
    refine WE.bare ?_
    refine WE.ret1 rfl rfl ?_
    rfl
end Go.Proofs.Ytgcpoehchohleaa
