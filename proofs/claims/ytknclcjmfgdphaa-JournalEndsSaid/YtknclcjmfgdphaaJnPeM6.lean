/- JournalEnds holds for every input: a cut in each byte of an appending leaves the records ahead of it, and the one that is appended wholly or not at all. No condition. -/
import Derived.Test.YtknclcjmfgdphaaJnPeM5
namespace Go.Proofs.Ytknclcjmfgdphaa
open Go.RowKit Go.BK
theorem dn_le {mb K K' : Nat} {Q : List Rec → Prop} {L : List HP} {S : BSet} {w : World} (h : (sepL (dnH mb K Q :: L)).sat S w) (hk : K ≤ K') : (sepL (dnH mb K' Q :: L)).sat S w := by
  obtain ⟨x, ⟨hm, hJ⟩, hx⟩ := dn_open h
  exact dn_shut x ⟨hm.up hk, hJ⟩ hx
set_option maxHeartbeats 8000000 in
set_option maxRecDepth 8000 in
theorem step_up (b mb jb K : Nat) (av uv : Value) (all : List Rec) (o : Op8) (w : World) (S : BSet) (hS : (sepL [.blk b #[ptr mb 0, ptr jb 0, av, uv] 80, upH jb mb K false all, .own 34 3 (av) (numd 1 all).length ((numd 1 all).flatMap recC), .own 34 3 (uv) (numd (all.length + 1) []).length ((numd (all.length + 1) []).flatMap recC)]).sat S w) (ho : o.Ok w S) (hK : K ≤ 1099511600000) (hfew : all.length ≤ 4294967280) :
    Tri Try.prog 28 #[ptr b 0, .agg #[i64 o.k, i64 o.r.kind, str o.r.text, o.cv]] w S fun u A => StepR b (K + 4) (all.length + 1) u A := by
  refine Tri.enter (l := [ptr b 0, .agg #[i64 o.k, i64 o.r.kind, str o.r.text, o.cv]]) Try.func28 rfl Try.ntmps28 rfl [(0, ptr b 0), (1, .agg #[i64 o.k, i64 o.r.kind, str o.r.text, o.cv])] (subA rfl) hS ?_
  have hal := numd_len all 1
  have hcv := ho.cuts.row_one
  have htl := ho.tl
  (first | refine WL.slOwn (v := av) (by repeat constructor) ?_ | refine WC.slOwn (v := av) (by repeat constructor) ?_)
  intro hc_av ho_av
  (first | refine WL.slOwn (v := uv) (by repeat constructor) ?_ | refine WC.slOwn (v := uv) (by repeat constructor) ?_)
  intro hc_uv ho_uv
  by_cases hk1 : o.k = 1
  · repeat first
      | refine WC.seq ?_ | refine WC.region ?_
    try refine WL.wanted rfl rfl rfl ?_
    (apply WL.box; exact rfl; exact rfl; exact rfl; intro ob)
    repeat first
      | (apply WL.q; exact rfl; exact rfl; exact rfl; (first | (apply EvW.assign; exact rfl) | (apply EvW.fieldAddr0; exact rfl; exact FldC.eq) | (apply EvW.load; exact rfl; exact ScalC.eq; (focus ((repeat constructor); done)); exact rfl) | (apply EvW.cmpT; exact rfl; exact rfl; exact rfl; omega)))
      | refine WC.seq ?_ | refine WC.region ?_ | refine WL.nil ?_ | refine WE.next ?_ | refine WC.block ?_ | refine WC.condT rfl ?_
    repeat refine WC.seq ?_
    refine WC.keep (xs := [.blk ob #[i64 (o).k, i64 (o).r.kind, str (o).r.text, (o).cv] 50, .blk b #[ptr mb 0, ptr jb 0, av, uv] 80, .own 34 3 (av) (numd 1 all).length ((numd 1 all).flatMap recC), .own 34 3 (uv) (numd (all.length + 1) []).length ((numd (all.length + 1) []).flatMap recC), upH jb mb K false all]) (by repeat constructor) ?_
    apply WC.par _ (fun c : Ch => [.blk ob #[i64 (o).k, i64 (o).r.kind, str (o).r.text, (o).cv] 50, .blk b #[ptr mb 0, ptr jb 0, av, uv] 80, .own 34 3 (av) (numd 1 all).length ((numd 1 all).flatMap recC), .own 34 3 (uv) (numd (all.length + 1) []).length ((numd (all.length + 1) []).flatMap recC), upH jb mb K false all, apH jb mb (K + 3) false all o.r ((c 8).2)]) [none, none, none, none, none, some 8] [none, none, none, none, some 8, none] [(8, fun x => x.2)] Try.mixed
    · (focus ((repeat (first | exact Restr.nil | (apply Restr.keep; exact rfl; exact rfl) | (apply Restr.drop; exact rfl))); done))
    · intro c; exact (by repeat constructor)
    · exact rfl
    · decide +kernel
    · decide +kernel
    · intro c
      (apply Par.quiet _ [true, true, true, true, true, false]; exact rfl; decide +kernel; exact rfl; intro R; refine ⟨_, (by repeat constructor), ?_⟩;
           (first | (apply EvW.move; exact rfl)))
      (apply Par.quiet _ [true, true, true, true, true, false]; exact rfl; decide +kernel; exact rfl; intro R; refine ⟨_, (by repeat constructor), ?_⟩;
           (first | (apply EvW.nilPtr; exact rfl)))
      (apply Par.quiet _ [true, true, true, true, true, false]; exact rfl; decide +kernel; exact rfl; intro R; refine ⟨_, (by repeat constructor), ?_⟩;
           (first | (apply EvW.fieldAddr0; exact rfl; exact FldC.eq)))
      (apply Par.quiet _ [true, true, true, true, true, false]; exact rfl; decide +kernel; exact rfl; intro R; refine ⟨_, (by repeat constructor), ?_⟩;
           (first | (apply EvW.load; exact rfl; exact ScalC.eq; (focus ((repeat constructor); done)); exact rfl)))
      (apply Par.quiet _ [true, true, true, true, true, false]; exact rfl; decide +kernel; exact rfl; intro R; refine ⟨_, (by repeat constructor), ?_⟩;
           (first | (apply EvW.fieldAddr0; exact rfl; exact FldC.eq)))
      (apply Par.quiet _ [true, true, true, true, true, false]; exact rfl; decide +kernel; exact rfl; intro R; refine ⟨_, (by repeat constructor), ?_⟩;
           (first | (apply EvW.load; exact rfl; exact ScalC.eq; (focus ((repeat constructor); done)); exact rfl)))
      (apply Par.quiet _ [true, true, true, true, true, false]; exact rfl; decide +kernel; exact rfl; intro R; refine ⟨_, (by repeat constructor), ?_⟩;
           (first | (apply EvW.fieldAddr0; exact rfl; exact FldC.eq)))
      (apply Par.quiet _ [true, true, true, true, true, false]; exact rfl; decide +kernel; exact rfl; intro R; refine ⟨_, (by repeat constructor), ?_⟩;
           (first | (apply EvW.load; exact rfl; exact ScalC.eq; (focus ((repeat constructor); done)); exact rfl)))
      apply Par.new _ [false, false, false, false, true, false] [false, false, false, false, false, true] [true, true, true, true, false, false]
      · exact rfl
      · exact rfl
      · decide +kernel
      · intro R
        refine ⟨_, _, _, (by repeat constructor), (by repeat constructor), (fun x => (by repeat constructor)), ?_⟩
        apply NewW.callA ([upH jb mb K false all]) (fun x => [apH jb mb (K + 3) false all o.r x.2])
        · exact rfl
        · exact fun w => Try.call13 _ w
        · (focus ((repeat constructor); done))
        · exact fun w1 S1 hS1 hs1 ho1 => append8p jb mb K false all o.r w1 S1 hS1 (by omega) (by omega) htl
        · rintro _ _ ⟨e, rfl, rfl⟩; exact ⟨(0, i64 e), rfl, rfl⟩
        · exact fun x _ h => TakeT.st (by (focus ((repeat (first | exact TakeT.tail | apply TakeT.cons | exact Take.head | apply Take.tail | apply TakeT.drop)); done))) h
      (apply Par.quiet _ [true, true, true, true, false, true]; exact rfl; decide +kernel; exact rfl; intro R; refine ⟨_, (by repeat constructor), ?_⟩;
           (first | (apply EvW.assign; exact rfl)))
      exact Par.nil
    · repeat (first | exact AllN.nil | (apply AllN.cons; (intro c x; (repeat (first | exact IndA.nil | (apply IndA.skip; decide +kernel) | apply IndA.same))))) 
    · repeat (first | exact AllN.nil | (apply AllN.cons; (intro c x; (repeat (first | exact IndT.nil | (apply IndT.skip; decide +kernel) | apply IndT.same))))) 
    · exact fun _ => rfl
    intro c
    refine ⟨_, (by repeat constructor), ?_⟩
    apply WE.writ
    · (focus ((repeat (first | exact Writ.nil | apply Writ.some | apply Writ.none)); done))
    generalize (c 8).2 = ev
    repeat first
      | (apply WL.q; exact rfl; exact rfl; exact rfl; (first | (apply EvW.fieldAddr0; exact rfl; exact FldC.eq) | (apply EvW.load; exact rfl; exact ScalC.eq; (focus ((repeat constructor); done)); exact rfl)))
      | refine WC.seq ?_ | refine WC.region ?_ | refine WE.next ?_
    try refine WL.wanted rfl rfl rfl ?_
    apply WL.callA ([])
    · exact rfl
    · exact rfl
    · exact fun w => Try.call51 _ w
    · (focus ((repeat constructor); done))
    · exact fun w1 S1 hS1 hs1 ho1 => jright_spec o.r w1 S1 hS1 htl
    rintro _ _ ⟨rfl, rfl⟩
    first | refine WL.app4 ?_ | refine WL.app3 ?_ | refine WL.app2 ?_ | refine WL.app1 ?_ | refine WL.app0 ?_ | skip
    repeat first
      | (apply WL.q; exact rfl; exact rfl; exact rfl; (first | (apply EvW.assign; exact rfl)))
      | refine WC.seq ?_ | refine WL.nil ?_ | refine WE.next ?_
    repeat refine WC.seq ?_
    refine WC.keep (xs := [.blk ob #[i64 (o).k, i64 (o).r.kind, str (o).r.text, (o).cv] 50, .blk b #[ptr mb 0, ptr jb 0, av, uv] 80, .own 34 3 (av) (numd 1 all).length ((numd 1 all).flatMap recC), .own 34 3 (uv) (numd (all.length + 1) []).length ((numd (all.length + 1) []).flatMap recC), apH jb mb (K + 3) false all o.r ev]) (by repeat constructor) ?_
    apply WC.par _ (fun c : Ch => [.blk ob #[i64 (o).k, i64 (o).r.kind, str (o).r.text, (o).cv] 50, .blk b #[ptr mb 0, ptr jb 0, av, uv] 80, .own 34 3 (av) (numd 1 all).length ((numd 1 all).flatMap recC), .own 34 3 (uv) (numd (all.length + 1) []).length ((numd (all.length + 1) []).flatMap recC), apH jb mb (K + 3) false all o.r ev, .blk (c 11).1 #[i64 0, i64 0, str []] 34, .blk (c 11).1 #[i64 (((numd 1 all).length : Int) + 1), i64 (o.r).kind, str (o.r).text] 34]) [none, none, none, none, none, some 11, some 12] [none, none, none, none, none, some 12, none] [(11, fun x => ptr x.1 0)] Try.mixed
    · (focus ((repeat (first | exact Restr.nil | (apply Restr.keep; exact rfl; exact rfl) | (apply Restr.drop; exact rfl))); done))
    · intro c; exact (by repeat constructor)
    · exact rfl
    · decide +kernel
    · decide +kernel
    · intro c
      (apply Par.quiet _ [true, true, true, true, true, false, false]; exact rfl; decide +kernel; exact rfl; intro R; refine ⟨_, (by repeat constructor), ?_⟩;
           (first | (apply EvW.move; exact rfl)))
      (apply Par.quiet _ [true, true, true, true, true, false, false]; exact rfl; decide +kernel; exact rfl; intro R; refine ⟨_, (by repeat constructor), ?_⟩;
           (first | (apply EvW.nilPtr; exact rfl)))
      (apply Par.quiet _ [true, true, true, true, true, false, false]; exact rfl; decide +kernel; exact rfl; intro R; refine ⟨_, (by repeat constructor), ?_⟩;
           (first | (apply EvW.fieldAddr0; exact rfl; exact FldC.eq)))
      (apply Par.quiet _ [true, true, true, true, true, false, false]; exact rfl; decide +kernel; exact rfl; intro R; refine ⟨_, (by repeat constructor), ?_⟩;
           (first | (apply EvW.load; exact rfl; exact ScalC.eq; (focus ((repeat constructor); done)); exact rfl)))
      (apply Par.quiet _ [true, true, true, true, true, false, false]; exact rfl; decide +kernel; exact rfl; intro R; refine ⟨_, (by repeat constructor), ?_⟩;
           (first | (apply EvW.lenOwn; exact rfl; exact UndC.eq; (focus ((repeat constructor); done)))))
      (apply Par.quiet _ [true, true, true, true, true, false, false]; exact rfl; decide +kernel; exact rfl; intro R; refine ⟨_, (by repeat constructor), ?_⟩;
           (first | (apply EvW.arN; exact rfl; exact rfl; exact rfl; refine i64_in ?_ ?_ <;> omega)))
      (apply Par.quiet _ [true, true, true, true, true, false, false]; exact rfl; decide +kernel; exact rfl; intro R; refine ⟨_, (by repeat constructor), ?_⟩;
           (first | (apply EvW.fieldAddr0; exact rfl; exact FldC.eq)))
      (apply Par.quiet _ [true, true, true, true, true, false, false]; exact rfl; decide +kernel; exact rfl; intro R; refine ⟨_, (by repeat constructor), ?_⟩;
           (first | (apply EvW.load; exact rfl; exact ScalC.eq; (focus ((repeat constructor); done)); exact rfl)))
      (apply Par.quiet _ [true, true, true, true, true, false, false]; exact rfl; decide +kernel; exact rfl; intro R; refine ⟨_, (by repeat constructor), ?_⟩;
           (first | (apply EvW.fieldAddr0; exact rfl; exact FldC.eq)))
      (apply Par.quiet _ [true, true, true, true, true, false, false]; exact rfl; decide +kernel; exact rfl; intro R; refine ⟨_, (by repeat constructor), ?_⟩;
           (first | (apply EvW.load; exact rfl; exact ScalC.eq; (focus ((repeat constructor); done)); exact rfl)))
      (apply Par.quiet _ [true, true, true, true, true, false, false]; exact rfl; decide +kernel; exact rfl; intro R; refine ⟨_, (by repeat constructor), ?_⟩;
           (first | (apply EvW.build; exact PlC.eq; exact ZvC.eq; exact rfl; exact rfl; (focus ((repeat (first | exact Fills.nil | (apply Fills.cons; exact rfl; (first | assumption | exact rfl); exact rfl) | exact SetMany.nil | apply SetMany.cons | apply SetMany.succ)); done)))))
      (apply Par.new _ [false, false, false, false, false, false, false] [false, false, false, false, false, true, false] [true, true, true, true, true, false, false]; exact rfl; exact rfl; decide +kernel; intro R; refine ⟨_, _, _, (by repeat constructor), (by repeat constructor), (fun x => (by repeat constructor)), ?_⟩; (apply NewW.alloc; exact ZvC.eq; exact rfl; exact fun _ => rfl))
      (apply Par.eff _ [false, false, false, false, false, true, false] [false, false, false, false, false, false, true] [true, true, true, true, true, false, false]; exact rfl; exact rfl; decide +kernel; intro R; refine ⟨_, _, _, (by repeat constructor), (by repeat constructor), (by repeat constructor), ?_⟩; (apply EffW.store; exact rfl; exact rfl; (first | assumption | exact rfl); exact SzC.eq; (first | assumption | exact rfl); (focus ((repeat constructor); done))))
      exact Par.nil
    · repeat (first | exact AllN.nil | (apply AllN.cons; (intro c x; (repeat (first | exact IndA.nil | (apply IndA.skip; decide +kernel) | apply IndA.same))))) 
    · repeat (first | exact AllN.nil | (apply AllN.cons; (intro c x; (repeat (first | exact IndT.nil | (apply IndT.skip; decide +kernel) | apply IndT.same))))) 
    · exact fun _ => rfl
    intro c
    refine ⟨_, (by repeat constructor), ?_⟩
    apply WE.writ
    · (focus ((repeat (first | exact Writ.nil | apply Writ.some | apply Writ.none)); done))
    generalize (c 11).1 = b11
    refine WE.next ?_
    refine WC.openAp (by repeat constructor) (fun hr he => ?_) (fun hr he => ?_) (fun hr he => ?_)
    · subst he
      generalize rightF o.r = e at hr
      repeat first
        | (apply WL.q; exact rfl; exact rfl; exact rfl; (first | (apply EvW.move; exact rfl) | (apply EvW.assign; exact rfl) | (apply EvW.cmpT; exact rfl; exact rfl; exact rfl; omega)))
        | refine WC.seq ?_ | refine WC.region ?_ | refine WL.nil ?_ | refine WE.next ?_ | refine WC.condT rfl ?_ | refine WC.ret ?_ | refine WE.passRet ?_ | refine WE.outRet ?_
      refine WE.keep (xs := [upH jb mb (K + 3) false all, .blk b #[ptr mb 0, ptr jb 0, av, uv] 80, .own 34 3 (av) (numd 1 all).length ((numd 1 all).flatMap recC), .own 34 3 (uv) (numd (all.length + 1) []).length ((numd (all.length + 1) []).flatMap recC)]) (by repeat constructor) ?_
      refine WE.stUp (K' := K + 4) (und := []) (by omega) .head ?_
      refine WE.keep (xs := [.blk b #[ptr mb 0, ptr jb 0, av, uv] 80, stH jb mb (K + 4) all [] false, .own 34 3 (av) (numd 1 all).length ((numd 1 all).flatMap recC), .own 34 3 (uv) (numd (all.length + 1) []).length ((numd (all.length + 1) []).flatMap recC)]) (by repeat constructor) ?_
      refine WE.ret1 rfl rfl ?_
      exact ⟨mb, jb, av, uv, all, [], false, rfl, rfl, by omega, by decide, fun _ => rfl⟩
    · subst he
      rw [hr]
      have hnum : numN (all ++ [o.r]) = (all.length : Int) + 1 + 1 := by unfold numN; rw [List.length_append]; rfl
      have hM : numd 1 (all ++ [o.r]) = numd 1 all ++ [⟨all.length + 1, o.r.kind, o.r.text⟩] := by rw [numd_append, Nat.add_comm]; rfl
      repeat first
        | (apply WL.q; exact rfl; exact rfl; exact rfl; (first | (apply EvW.move; exact rfl) | (apply EvW.cmpT; exact rfl; exact rfl; exact rfl; omega) | (apply EvW.cmpF; exact rfl; exact rfl; exact rfl; omega)))
        | refine WC.seq ?_ | refine WC.region ?_ | refine WL.nil ?_ | refine WE.next ?_ | refine WC.skip ?_ | refine WC.condT rfl ?_ | refine WC.condF rfl ?_
      repeat refine WC.seq ?_
      refine WC.keep (xs := [.blk b #[ptr mb 0, ptr jb 0, av, uv] 80, .own 34 3 (av) (numd 1 all).length ((numd 1 all).flatMap recC), .own 34 3 (uv) (numd (all.length + 1) []).length ((numd (all.length + 1) []).flatMap recC), .blk ob #[i64 (o).k, i64 (o).r.kind, str (o).r.text, (o).cv] 50, .blk b11 #[i64 (((numd 1 all).length : Int) + 1), i64 (o.r).kind, str (o.r).text] 34, upH jb mb (K + 3) false (all ++ [o.r])]) (by repeat constructor) ?_
      apply WC.par _ (fun c : Ch => [.blk b #[ptr mb 0, ptr jb 0, av, uv] 80, .blk b #[ptr mb 0, ptr jb 0, (c 9).2, uv] 80, .own 34 3 (av) (numd 1 all).length ((numd 1 all).flatMap recC), .own 34 3 (uv) (numd (all.length + 1) []).length ((numd (all.length + 1) []).flatMap recC), .blk ob #[i64 (o).k, i64 (o).r.kind, str (o).r.text, (o).cv] 50, .blk b11 #[i64 (((numd 1 all).length : Int) + 1), i64 (o.r).kind, str (o.r).text] 34, upH jb mb (K + 3) false (all ++ [o.r]), .own 34 3 (.slice (some ⟨(c 1).1, 0, none⟩) 0 0) 0 [], .own 34 3 ((c 6).2) (0 + (numd 1 all).length) ([] ++ (numd 1 all).flatMap recC), .blk (c 8).1 #[i64 (((numd 1 all).length : Int) + 1), i64 o.r.kind, str o.r.text] 34, .own 34 3 ((c 9).2) (0 + (numd 1 all).length + 1) ([] ++ (numd 1 all).flatMap recC ++ [i64 (((numd 1 all).length : Int) + 1), i64 o.r.kind, str o.r.text])]) [none, some 12, none, none, none, none, none, some 1, some 6, some 8, some 9] [some 12, none, none, none, none, none, none, some 6, some 9, none, none] [(1, fun x => .slice (some ⟨x.1, 0, none⟩) 0 0), (6, fun x => x.2), (8, fun x => .slice (some ⟨x.1, 0, none⟩) 1 1), (9, fun x => x.2)] Try.mixed
      · (focus ((repeat (first | exact Restr.nil | (apply Restr.keep; exact rfl; exact rfl) | (apply Restr.drop; exact rfl))); done))
      · intro c; exact (by repeat constructor)
      · exact rfl
      · decide +kernel
      · decide +kernel
      · intro c
        (apply Par.quiet _ [true, false, true, true, true, true, true, false, false, false, false]; exact rfl; decide +kernel; exact rfl; intro R; refine ⟨_, (by repeat constructor), ?_⟩;
             (first | (apply EvW.move; exact rfl)))
        apply Par.new _ [false, false, false, false, false, false, false, false, false, false, false] [false, false, false, false, false, false, false, true, false, false, false] [true, false, true, true, true, true, true, false, false, false, false]
        · exact rfl
        · exact rfl
        · decide +kernel
        · intro R
          refine ⟨_, _, _, (by repeat constructor), (by repeat constructor), (fun x => (by repeat constructor)), ?_⟩
          (refine NewW.conv8 ?_ (fun _ _ hs => St.zero8 hs); (apply NewW.buildSlice; exact UndC.eq; exact SzC.eq; exact ZvC.eq; exact rfl; exact rfl; exact rfl; exact Flat.nil; exact rfl; exact rfl; exact fun _ => rfl))
        (apply Par.quiet _ [true, false, true, true, true, true, true, false, false, false, false]; exact rfl; decide +kernel; exact rfl; intro R; refine ⟨_, (by repeat constructor), ?_⟩;
             (first | (apply EvW.move; exact rfl)))
        (apply Par.quiet _ [true, false, true, true, true, true, true, false, false, false, false]; exact rfl; decide +kernel; exact rfl; intro R; refine ⟨_, (by repeat constructor), ?_⟩;
             (first | (apply EvW.nilPtr; exact rfl)))
        (apply Par.quiet _ [true, false, true, true, true, true, true, false, false, false, false]; exact rfl; decide +kernel; exact rfl; intro R; refine ⟨_, (by repeat constructor), ?_⟩;
             (first | (apply EvW.fieldAddr0; exact rfl; exact FldC.eq)))
        (apply Par.quiet _ [true, false, true, true, true, true, true, false, false, false, false]; exact rfl; decide +kernel; exact rfl; intro R; refine ⟨_, (by repeat constructor), ?_⟩;
             (first | (apply EvW.load; exact rfl; exact ScalC.eq; (focus ((repeat constructor); done)); exact rfl)))
        apply Par.new _ [false, false, false, false, false, false, false, true, false, false, false] [false, false, false, false, false, false, false, false, true, false, false] [true, false, true, true, true, true, true, false, false, false, false]
        · exact rfl
        · exact rfl
        · decide +kernel
        · intro R
          refine ⟨_, _, _, (by repeat constructor), (by repeat constructor), (fun x => (by repeat constructor)), ?_⟩
          (apply NewW.append; exact rfl; exact rfl; exact UndC.eq; exact SzC.eq; exact ByC.eq; exact ZvC.eq; exact rfl; (first | exact notInt_sl UndC.eq | exact notInt_st UndC.eq); exact rfl; (focus ((repeat constructor); done)))
          · exact adds_own (by repeat constructor) (flat_recN _) (all_recN _)
          · (omega)
          · exact fun _ _ h => TakeT.st (by (focus ((repeat (first | exact TakeT.tail | apply TakeT.cons | exact Take.head | apply Take.tail | apply TakeT.drop)); done))) h
        (apply Par.quiet _ [true, false, true, true, true, true, true, false, false, false, false]; exact rfl; decide +kernel; exact rfl; intro R; refine ⟨_, (by repeat constructor), ?_⟩;
             (first | (apply EvW.loadAgg; exact rfl; exact AggC.eq; exact SzC.eq; (focus ((repeat constructor); done)); (focus ((repeat (first | exact SubL.nil | apply SubL.cons | apply SubL.succ)); done)))))
        (apply Par.new _ [false, false, false, false, false, false, false, false, false, false, false] [false, false, false, false, false, false, false, false, false, true, false] [true, false, true, true, true, true, true, false, false, false, false]; exact rfl; exact rfl; decide +kernel; intro R; refine ⟨_, _, _, (by repeat constructor), (by repeat constructor), (fun x => (by repeat constructor)), ?_⟩; (apply NewW.buildSlice; exact UndC.eq; exact SzC.eq; exact ZvC.eq; exact rfl; exact rfl; exact rfl; (focus ((repeat (first | exact Flat.nil | (apply Flat.one; (first | exact rfl | assumption)) | (apply Flat.cons; exact rfl; exact rfl))); done)); exact rfl; exact rfl; exact fun _ => rfl))
        apply Par.new _ [false, false, false, false, false, false, false, false, true, false, false] [false, false, false, false, false, false, false, false, false, false, true] [true, false, true, true, true, true, true, false, false, true, false]
        · exact rfl
        · exact rfl
        · decide +kernel
        · intro R
          refine ⟨_, _, _, (by repeat constructor), (by repeat constructor), (fun x => (by repeat constructor)), ?_⟩
          (apply NewW.append; exact rfl; exact rfl; exact UndC.eq; exact SzC.eq; exact ByC.eq; exact ZvC.eq; exact rfl; (first | exact notInt_sl UndC.eq | exact notInt_st UndC.eq); exact rfl; (focus ((repeat constructor); done)))
          · exact adds_blk (by repeat constructor) rfl rfl
          · (omega)
          · exact fun _ _ h => TakeT.st (by (focus ((repeat (first | exact TakeT.tail | apply TakeT.cons | exact Take.head | apply Take.tail | apply TakeT.drop)); done))) h
        (apply Par.quiet _ [true, false, true, true, true, true, true, false, false, true, true]; exact rfl; decide +kernel; exact rfl; intro R; refine ⟨_, (by repeat constructor), ?_⟩;
             (first | (apply EvW.nilPtr; exact rfl)))
        (apply Par.quiet _ [true, false, true, true, true, true, true, false, false, true, true]; exact rfl; decide +kernel; exact rfl; intro R; refine ⟨_, (by repeat constructor), ?_⟩;
             (first | (apply EvW.fieldAddr0; exact rfl; exact FldC.eq)))
        apply Par.eff _ [true, false, false, false, false, false, false, false, false, false, false] [false, true, false, false, false, false, false, false, false, false, false] [false, false, true, true, true, true, true, false, false, true, true]
        · exact rfl
        · exact rfl
        · decide +kernel
        · intro R
          refine ⟨_, _, _, (by repeat constructor), (by repeat constructor), (by repeat constructor), ?_⟩
          (apply EffW.storeSl; exact rfl; exact rfl; (focus ((repeat constructor); done)); exact SzC.eq; (focus ((repeat constructor); done)))
        exact Par.nil
      · repeat (first | exact AllN.nil | (apply AllN.cons; (intro c x; (repeat (first | exact IndA.nil | (apply IndA.skip; decide +kernel) | apply IndA.same))))) 
      · repeat (first | exact AllN.nil | (apply AllN.cons; (intro c x; (repeat (first | exact IndT.nil | (apply IndT.skip; decide +kernel) | apply IndT.same))))) 
      · exact fun _ => rfl
      intro c
      refine ⟨_, (by repeat constructor), ?_⟩
      apply WE.writ
      · (focus ((repeat (first | exact Writ.nil | apply Writ.some | apply Writ.none)); done))
      generalize (c 1).1 = b1
      generalize (c 8).1 = b8
      have eO : HP.own 34 3 (c 9).2 (0 + (numd 1 all).length + 1) ([] ++ (numd 1 all).flatMap recC ++ [i64 (((numd 1 all).length : Int) + 1), i64 o.r.kind, str o.r.text]) = .own 34 3 ((c 9).2) (numd 1 (all ++ [o.r])).length ((numd 1 (all ++ [o.r])).flatMap recC) := by
        rw [hM, List.length_append, List.flatMap_append, Nat.zero_add, hal]; rfl
      rw [eO]
      generalize (c 9).2 = av2
      repeat first
        | refine WC.seq ?_ | refine WE.next ?_
      repeat refine WC.seq ?_
      refine WC.keep (xs := [.blk b #[ptr mb 0, ptr jb 0, av2, uv] 80, .own 34 3 (av2) (numd 1 (all ++ [o.r])).length ((numd 1 (all ++ [o.r])).flatMap recC), .own 34 3 (av) (numd 1 all).length ((numd 1 all).flatMap recC), .own 34 3 (uv) (numd (all.length + 1) []).length ((numd (all.length + 1) []).flatMap recC), .blk ob #[i64 (o).k, i64 (o).r.kind, str (o).r.text, (o).cv] 50, .blk b11 #[i64 (((numd 1 all).length : Int) + 1), i64 (o.r).kind, str (o.r).text] 34, upH jb mb (K + 3) false (all ++ [o.r])]) (by repeat constructor) ?_
      apply WC.par _ (fun c : Ch => [.blk b #[ptr mb 0, ptr jb 0, av2, uv] 80, .own 34 3 (av2) (numd 1 (all ++ [o.r])).length ((numd 1 (all ++ [o.r])).flatMap recC), .own 34 3 (av) (numd 1 all).length ((numd 1 all).flatMap recC), .own 34 3 (uv) (numd (all.length + 1) []).length ((numd (all.length + 1) []).flatMap recC), .blk ob #[i64 (o).k, i64 (o).r.kind, str (o).r.text, (o).cv] 50, .blk b11 #[i64 (((numd 1 all).length : Int) + 1), i64 (o.r).kind, str (o.r).text] 34, upH jb mb (K + 3) false (all ++ [o.r]), upH jb mb (K + 3) false (all ++ [o.r]), upH jb mb (K + 3) false (all ++ [o.r])]) [none, none, none, none, none, none, none, some 6, some 12] [none, none, none, none, none, none, some 6, some 12, none] [] Try.mixed
      · (focus ((repeat (first | exact Restr.nil | (apply Restr.keep; exact rfl; exact rfl) | (apply Restr.drop; exact rfl))); done))
      · intro c; exact (by repeat constructor)
      · exact rfl
      · decide +kernel
      · decide +kernel
      · intro c
        (apply Par.quiet _ [true, true, true, true, true, true, true, false, false]; exact rfl; decide +kernel; exact rfl; intro R; refine ⟨_, (by repeat constructor), ?_⟩;
             (first | (apply EvW.move; exact rfl)))
        (apply Par.quiet _ [true, true, true, true, true, true, true, false, false]; exact rfl; decide +kernel; exact rfl; intro R; refine ⟨_, (by repeat constructor), ?_⟩;
             (first | (apply EvW.nilPtr; exact rfl)))
        (apply Par.quiet _ [true, true, true, true, true, true, true, false, false]; exact rfl; decide +kernel; exact rfl; intro R; refine ⟨_, (by repeat constructor), ?_⟩;
             (first | (apply EvW.fieldAddr0; exact rfl; exact FldC.eq)))
        (apply Par.quiet _ [true, true, true, true, true, true, true, false, false]; exact rfl; decide +kernel; exact rfl; intro R; refine ⟨_, (by repeat constructor), ?_⟩;
             (first | (apply EvW.load; exact rfl; exact ScalC.eq; (focus ((repeat constructor); done)); exact rfl)))
        (apply Par.quiet _ [true, true, true, true, true, true, true, false, false]; exact rfl; decide +kernel; exact rfl; intro R; refine ⟨_, (by repeat constructor), ?_⟩;
             (first | (apply EvW.nilPtr; exact rfl)))
        (apply Par.quiet _ [true, true, true, true, true, true, true, false, false]; exact rfl; decide +kernel; exact rfl; intro R; refine ⟨_, (by repeat constructor), ?_⟩;
             (first | (apply EvW.fieldAddr0; exact rfl; exact FldC.eq)))
        apply Par.eff _ [false, false, false, false, false, false, true, false, false] [false, false, false, false, false, false, false, true, false] [true, true, true, true, true, true, false, false, false]
        · exact rfl
        · exact rfl
        · decide +kernel
        · intro R
          refine ⟨_, _, _, (by repeat constructor), (by repeat constructor), (by repeat constructor), ?_⟩
          apply EffW.callA ([upH jb mb (K + 3) false (all ++ [o.r])])
          · exact rfl
          · exact fun w => Try.call18 _ w
          · (focus ((repeat constructor); done))
          · exact fun w1 S1 hS1 hs1 ho1 => down_up jb mb (K + 3) false (all ++ [o.r]) w1 S1 hS1
          · exact fun _ _ h => h
          · exact fun _ h => TakeT.st (by (focus ((repeat (first | exact TakeT.tail | apply TakeT.cons | exact Take.head | apply Take.tail | apply TakeT.drop)); done))) h
        (apply Par.quiet _ [true, true, true, true, true, true, false, true, false]; exact rfl; decide +kernel; exact rfl; intro R; refine ⟨_, (by repeat constructor), ?_⟩;
             (first | (apply EvW.move; exact rfl)))
        first
          | (apply Par.skip; exact rfl; decide +kernel; exact rfl)
          | (apply Par.quiet _ [true, true, true, true, true, true, false, true, false]; exact rfl; decide +kernel; exact rfl; intro R; refine ⟨_, (by repeat constructor), ?_⟩;
             (first | (apply EvW.move; exact rfl)))
        first
          | (apply Par.skip; exact rfl; decide +kernel; exact rfl)
          | (apply Par.quiet _ [true, true, true, true, true, true, false, true, false]; exact rfl; decide +kernel; exact rfl; intro R; refine ⟨_, (by repeat constructor), ?_⟩;
             (first | (apply EvW.nilPtr; exact rfl)))
        first
          | (apply Par.skip; exact rfl; decide +kernel; exact rfl)
          | (apply Par.quiet _ [true, true, true, true, true, true, false, true, false]; exact rfl; decide +kernel; exact rfl; intro R; refine ⟨_, (by repeat constructor), ?_⟩;
             (first | (apply EvW.fieldAddr0; exact rfl; exact FldC.eq)))
        first
          | (apply Par.skip; exact rfl; decide +kernel; exact rfl)
          | (apply Par.quiet _ [true, true, true, true, true, true, false, true, false]; exact rfl; decide +kernel; exact rfl; intro R; refine ⟨_, (by repeat constructor), ?_⟩;
             (first | (apply EvW.load; exact rfl; exact ScalC.eq; (focus ((repeat constructor); done)); exact rfl)))
        apply Par.eff _ [false, false, false, false, false, false, false, true, false] [false, false, false, false, false, false, false, false, true] [true, true, true, true, true, true, false, false, false]
        · exact rfl
        · exact rfl
        · decide +kernel
        · intro R
          refine ⟨_, _, _, (by repeat constructor), (by repeat constructor), (by repeat constructor), ?_⟩
          apply EffW.callA ([upH jb mb (K + 3) false (all ++ [o.r])])
          · exact rfl
          · exact fun w => Try.call12 _ w
          · (focus ((repeat constructor); done))
          · exact fun w1 S1 hS1 hs1 ho1 => (by have h := next_up jb mb (K + 3) false (all ++ [o.r]) w1 S1 hS1; rw [hnum] at h; exact h)
          · exact fun _ _ h => h
          · exact fun _ h => TakeT.st (by (focus ((repeat (first | exact TakeT.tail | apply TakeT.cons | exact Take.head | apply Take.tail | apply TakeT.drop)); done))) h
        first
          | (apply Par.skip; exact rfl; decide +kernel; exact rfl)
          | (apply Par.quiet _ [true, true, true, true, true, true, false, false, false]; exact rfl; decide +kernel; exact rfl; intro R; refine ⟨_, (by repeat constructor), ?_⟩;
             (first | (apply EvW.fieldAddr0; exact rfl; exact FldC.eq)))
        first
          | (apply Par.skip; exact rfl; decide +kernel; exact rfl)
          | (apply Par.quiet _ [true, true, true, true, true, true, false, false, false]; exact rfl; decide +kernel; exact rfl; intro R; refine ⟨_, (by repeat constructor), ?_⟩;
             (first | (apply EvW.load; exact rfl; exact ScalC.eq; (focus ((repeat constructor); done)); exact rfl)))
        first
          | (apply Par.skip; exact rfl; decide +kernel; exact rfl)
          | (apply Par.quiet _ [true, true, true, true, true, true, false, false, false]; exact rfl; decide +kernel; exact rfl; intro R; refine ⟨_, (by repeat constructor), ?_⟩;
             (first | (apply EvW.arN; exact rfl; exact rfl; exact rfl; refine i64_in ?_ ?_ <;> omega)))
        first
          | (apply Par.skip; exact rfl; decide +kernel; exact rfl)
          | (apply Par.quiet _ [true, true, true, true, true, true, false, false, true]; exact rfl; decide +kernel; exact rfl; intro R; refine ⟨_, (by repeat constructor), ?_⟩;
             (first | (apply EvW.cmpT; exact rfl; exact rfl; exact rfl; omega)))
        (apply Par.quiet _ [true, true, true, true, true, true, false, false, true]; exact rfl; decide +kernel; exact rfl; intro R; refine ⟨_, (by repeat constructor), ?_⟩;
             (first | (apply EvW.pickF; exact rfl; exact rfl)))
        (apply Par.quiet _ [true, true, true, true, true, true, false, false, true]; exact rfl; decide +kernel; exact rfl; intro R; refine ⟨_, (by repeat constructor), ?_⟩;
             (first | (apply EvW.assign; exact rfl)))
        exact Par.nil
      · repeat (first | exact AllN.nil | (apply AllN.cons; (intro c x; (repeat (first | exact IndA.nil | (apply IndA.skip; decide +kernel) | apply IndA.same))))) 
      · repeat (first | exact AllN.nil | (apply AllN.cons; (intro c x; (repeat (first | exact IndT.nil | (apply IndT.skip; decide +kernel) | apply IndT.same))))) 
      · exact fun _ => rfl
      intro c
      refine ⟨_, (by repeat constructor), ?_⟩
      apply WE.writ
      · (focus ((repeat (first | exact Writ.nil | apply Writ.some | apply Writ.none)); done))
      repeat first
        | refine WE.next ?_ | refine WC.ret ?_ | refine WE.passRet ?_ | refine WE.outRet ?_
      refine WE.keep (xs := [upH jb mb (K + 3) false (all ++ [o.r]), .blk b #[ptr mb 0, ptr jb 0, av2, uv] 80, .own 34 3 (av2) (numd 1 (all ++ [o.r])).length ((numd 1 (all ++ [o.r])).flatMap recC), .own 34 3 (uv) (numd (all.length + 1) []).length ((numd (all.length + 1) []).flatMap recC)]) (by repeat constructor) ?_
      refine WE.stUp (K' := K + 4) (und := []) (by omega) .head ?_
      refine WE.keep (xs := [.blk b #[ptr mb 0, ptr jb 0, av2, uv] 80, stH jb mb (K + 4) (all ++ [o.r]) [] false, .own 34 3 (av2) (numd 1 (all ++ [o.r])).length ((numd 1 (all ++ [o.r])).flatMap recC), .own 34 3 (uv) (numd ((all ++ [o.r]).length + 1) []).length ((numd ((all ++ [o.r]).length + 1) []).flatMap recC)]) (by repeat constructor) ?_
      refine WE.ret1 rfl rfl ?_
      exact ⟨mb, jb, av2, uv, all ++ [o.r], [], false, rfl, rfl, by (rw [List.length_append]; exact Nat.le_refl _), by decide, fun _ => rfl⟩
    · subst he
      rw [hr]
      repeat first
        | (apply WL.q; exact rfl; exact rfl; exact rfl; (first | (apply EvW.move; exact rfl) | (apply EvW.cmpF; exact rfl; exact rfl; exact rfl; omega) | (apply EvW.loadAgg; exact rfl; exact AggC.eq; exact SzC.eq; (focus ((repeat constructor); done)); (focus ((repeat (first | exact SubL.nil | apply SubL.cons | apply SubL.succ)); done)))))
        | refine WC.seq ?_ | refine WC.region ?_ | refine WL.nil ?_ | refine WE.next ?_ | refine WC.skip ?_ | refine WC.condF rfl ?_
      try refine WL.wanted rfl rfl rfl ?_
      (apply WL.buildSlice; exact rfl; exact UndC.eq; exact SzC.eq; exact ZvC.eq; exact rfl; exact rfl; exact rfl; ((focus ((repeat (first | exact Flat.nil | (apply Flat.one; (first | exact rfl | assumption)) | (apply Flat.cons; exact rfl; exact rfl))); done))); exact rfl; exact rfl; intro c1)
      refine WL.toOwn (bl := c1) 1 3 .head rfl ?_
      refine WL.ownEq (cs' := (numd (all.length + 1) [o.r]).flatMap recC) (len' := (numd (all.length + 1) [o.r]).length) .head rfl (by rw [hal]; rfl) ?_
      repeat first
        | (apply WL.q; exact rfl; exact rfl; exact rfl; (first | (apply EvW.move; exact rfl) | (apply EvW.nilPtr; exact rfl) | (apply EvW.fieldAddr0; exact rfl; exact FldC.eq) | (apply EvW.load; exact rfl; exact ScalC.eq; (focus ((repeat constructor); done)); exact rfl) | (apply EvW.cmpT; exact rfl; exact rfl; exact rfl; omega)))
        | refine WC.seq ?_ | refine WC.region ?_ | refine WL.nil ?_ | refine WE.next ?_ | refine WL.wanted rfl rfl rfl ?_ | (apply WL.store; exact rfl; exact rfl; (first | assumption | exact rfl); exact SzC.eq; (first | assumption | exact rfl); (focus ((repeat constructor); done)))
      try refine WL.wanted rfl rfl rfl ?_
      apply WL.callA ([dnH mb (K + 3) (fun x => x = all ∨ x = all ++ [o.r])])
      · exact rfl
      · exact rfl
      · exact fun w => Try.call18 _ w
      · (focus ((repeat constructor); done))
      · exact fun w1 S1 hS1 hs1 ho1 => down_dn mb (K + 3) (fun x => x = all ∨ x = all ++ [o.r]) w1 S1 hS1
      rintro _ _ ⟨rfl, rfl⟩
      first | refine WL.app4 ?_ | refine WL.app3 ?_ | refine WL.app2 ?_ | refine WL.app1 ?_ | refine WL.app0 ?_ | skip
      repeat first
        | (apply WL.q; exact rfl; exact rfl; exact rfl; (first | (apply EvW.move; exact rfl) | (apply EvW.nilPtr; exact rfl) | (apply EvW.fieldAddr0; exact rfl; exact FldC.eq) | (apply EvW.load; exact rfl; exact ScalC.eq; (focus ((repeat constructor); done)); exact rfl) | (apply EvW.pickT; exact rfl; exact rfl)))
        | refine WL.wanted rfl rfl rfl ?_
      try refine WL.wanted rfl rfl rfl ?_
      apply WL.callA ([jdH jb mb])
      · exact rfl
      · exact rfl
      · exact fun w => Try.call23 _ w
      · (focus ((repeat constructor); done))
      · exact fun w1 S1 hS1 hs1 ho1 => jdead_dn jb mb w1 S1 hS1
      rintro _ _ ⟨rfl, rfl⟩
      first | refine WL.app4 ?_ | refine WL.app3 ?_ | refine WL.app2 ?_ | refine WL.app1 ?_ | refine WL.app0 ?_ | skip
      repeat first
        | (apply WL.q; exact rfl; exact rfl; exact rfl; (first | (apply EvW.assign; exact rfl) | (apply EvW.pickT; exact rfl; exact rfl)))
        | refine WL.nil ?_ | refine WE.next ?_ | refine WC.ret ?_ | refine WE.passRet ?_ | refine WE.outRet ?_
      refine WE.conv (A' := [stH jb mb (K + 4) all [o.r] true, .blk b #[ptr mb 0, ptr jb 0, av, .slice (some ⟨c1, 0, none⟩) 1 1] 80, .own 34 3 (av) (numd 1 all).length ((numd 1 all).flatMap recC), .own 34 3 (.slice (some ⟨c1, 0, none⟩) 1 1) (numd (all.length + 1) [o.r]).length ((numd (all.length + 1) [o.r]).flatMap recC)]) (fun _ hs => ?_) ?_
      · have h2 : St w S [dnH mb (K + 3) (fun x => x = all ∨ x = all ++ [o.r]), .blk b #[ptr mb 0, ptr jb 0, av, .slice (some ⟨c1, 0, none⟩) 1 1] 80, .own 34 3 (av) (numd 1 all).length ((numd 1 all).flatMap recC), .own 34 3 (.slice (some ⟨c1, 0, none⟩) 1 1) (numd (all.length + 1) [o.r]).length ((numd (all.length + 1) [o.r]).flatMap recC)] _ := hs.keep (by repeat constructor)
        exact h2.mono fun S w h => dn_le h (by omega)
      refine WE.keep (xs := [.blk b #[ptr mb 0, ptr jb 0, av, .slice (some ⟨c1, 0, none⟩) 1 1] 80, stH jb mb (K + 4) all [o.r] true, .own 34 3 (av) (numd 1 all).length ((numd 1 all).flatMap recC), .own 34 3 (.slice (some ⟨c1, 0, none⟩) 1 1) (numd (all.length + 1) [o.r]).length ((numd (all.length + 1) [o.r]).flatMap recC)]) (by repeat constructor) ?_
      refine WE.ret1 rfl rfl ?_
      exact ⟨mb, jb, av, .slice (some ⟨c1, 0, none⟩) 1 1, all, [o.r], true, rfl, rfl, by omega, Nat.le_refl 1, fun h => by cases h⟩
  by_cases hk2 : o.k = 2
  · repeat first
      | refine WC.seq ?_ | refine WC.region ?_
    try refine WL.wanted rfl rfl rfl ?_
    (apply WL.box; exact rfl; exact rfl; exact rfl; intro ob)
    repeat first
      | (apply WL.q; exact rfl; exact rfl; exact rfl; (first | (apply EvW.assign; exact rfl) | (apply EvW.fieldAddr0; exact rfl; exact FldC.eq) | (apply EvW.load; exact rfl; exact ScalC.eq; (focus ((repeat constructor); done)); exact rfl) | (apply EvW.cmpT; exact rfl; exact rfl; exact rfl; omega) | (apply EvW.cmpF; exact rfl; exact rfl; exact rfl; omega)))
      | refine WC.seq ?_ | refine WC.region ?_ | refine WL.nil ?_ | refine WE.next ?_ | refine WC.block ?_ | refine WC.condT rfl ?_ | refine WC.condF rfl ?_
    repeat refine WC.seq ?_
    refine WC.keep (xs := [.blk ob #[i64 (o).k, i64 (o).r.kind, str (o).r.text, (o).cv] 50, .blk b #[ptr mb 0, ptr jb 0, av, uv] 80, .own 34 3 (av) (numd 1 all).length ((numd 1 all).flatMap recC), .own 34 3 (uv) (numd (all.length + 1) []).length ((numd (all.length + 1) []).flatMap recC), upH jb mb K false all]) (by repeat constructor) ?_
    apply WC.par _ (fun c : Ch => [.blk ob #[i64 (o).k, i64 (o).r.kind, str (o).r.text, (o).cv] 50, .blk b #[ptr mb 0, ptr jb 0, av, uv] 80, .own 34 3 (av) (numd 1 all).length ((numd 1 all).flatMap recC), .own 34 3 (uv) (numd (all.length + 1) []).length ((numd (all.length + 1) []).flatMap recC), upH jb mb K false all, upH jb mb K false all]) [none, none, none, none, none, some 8] [none, none, none, none, some 8, none] [] Try.mixed
    · (focus ((repeat (first | exact Restr.nil | (apply Restr.keep; exact rfl; exact rfl) | (apply Restr.drop; exact rfl))); done))
    · intro c; exact (by repeat constructor)
    · exact rfl
    · decide +kernel
    · decide +kernel
    · intro c
      (apply Par.quiet _ [true, true, true, true, true, false]; exact rfl; decide +kernel; exact rfl; intro R; refine ⟨_, (by repeat constructor), ?_⟩;
           (first | (apply EvW.move; exact rfl)))
      (apply Par.quiet _ [true, true, true, true, true, false]; exact rfl; decide +kernel; exact rfl; intro R; refine ⟨_, (by repeat constructor), ?_⟩;
           (first | (apply EvW.nilPtr; exact rfl)))
      (apply Par.quiet _ [true, true, true, true, true, false]; exact rfl; decide +kernel; exact rfl; intro R; refine ⟨_, (by repeat constructor), ?_⟩;
           (first | (apply EvW.fieldAddr0; exact rfl; exact FldC.eq)))
      (apply Par.quiet _ [true, true, true, true, true, false]; exact rfl; decide +kernel; exact rfl; intro R; refine ⟨_, (by repeat constructor), ?_⟩;
           (first | (apply EvW.load; exact rfl; exact ScalC.eq; (focus ((repeat constructor); done)); exact rfl)))
      (apply Par.quiet _ [true, true, true, true, true, false]; exact rfl; decide +kernel; exact rfl; intro R; refine ⟨_, (by repeat constructor), ?_⟩;
           (first | (apply EvW.nilPtr; exact rfl)))
      (apply Par.quiet _ [true, true, true, true, true, false]; exact rfl; decide +kernel; exact rfl; intro R; refine ⟨_, (by repeat constructor), ?_⟩;
           (first | (apply EvW.fieldAddr0; exact rfl; exact FldC.eq)))
      (apply Par.quiet _ [true, true, true, true, true, false]; exact rfl; decide +kernel; exact rfl; intro R; refine ⟨_, (by repeat constructor), ?_⟩;
           (first | (apply EvW.fieldAddr0; exact rfl; exact FldC.eq)))
      (apply Par.quiet _ [true, true, true, true, true, false]; exact rfl; decide +kernel; exact rfl; intro R; refine ⟨_, (by repeat constructor), ?_⟩;
           (first | (apply EvW.load; exact rfl; exact ScalC.eq; (focus ((repeat constructor); done)); exact rfl)))
      apply Par.eff _ [false, false, false, false, true, false] [false, false, false, false, false, true] [true, true, true, true, false, false]
      · exact rfl
      · exact rfl
      · decide +kernel
      · intro R
        refine ⟨_, _, _, (by repeat constructor), (by repeat constructor), (by repeat constructor), ?_⟩
        apply EffW.callA ([upH jb mb K false all])
        · exact rfl
        · exact fun w => Try.call17 _ w
        · (focus ((repeat constructor); done))
        · exact fun w1 S1 hS1 hs1 ho1 => arm_up jb mb K false all o.cv o.cs false w1 S1 hS1 (hs1 _ ho.cuts) ho.cl (fun h => by cases h)
        · exact fun _ _ h => h
        · exact fun _ h => TakeT.st (by (focus ((repeat (first | exact TakeT.tail | apply TakeT.cons | exact Take.head | apply Take.tail | apply TakeT.drop)); done))) h
      exact Par.nil
    · repeat (first | exact AllN.nil | (apply AllN.cons; (intro c x; (repeat (first | exact IndA.nil | (apply IndA.skip; decide +kernel) | apply IndA.same))))) 
    · repeat (first | exact AllN.nil | (apply AllN.cons; (intro c x; (repeat (first | exact IndT.nil | (apply IndT.skip; decide +kernel) | apply IndT.same))))) 
    · exact fun _ => rfl
    intro c
    refine ⟨_, (by repeat constructor), ?_⟩
    apply WE.writ
    · (focus ((repeat (first | exact Writ.nil | apply Writ.some | apply Writ.none)); done))
    repeat first
      | (apply WL.q; exact rfl; exact rfl; exact rfl; (first | (apply EvW.assign; exact rfl)))
      | refine WC.seq ?_ | refine WC.region ?_ | refine WL.nil ?_ | refine WE.next ?_ | refine WE.out ?_ | refine WC.ret ?_
    refine WE.keep (xs := [upH jb mb K false all, .blk b #[ptr mb 0, ptr jb 0, av, uv] 80, .own 34 3 (av) (numd 1 all).length ((numd 1 all).flatMap recC), .own 34 3 (uv) (numd (all.length + 1) []).length ((numd (all.length + 1) []).flatMap recC)]) (by repeat constructor) ?_
    refine WE.stUp (K' := K + 4) (und := []) (by omega) .head ?_
    refine WE.keep (xs := [.blk b #[ptr mb 0, ptr jb 0, av, uv] 80, stH jb mb (K + 4) all [] false, .own 34 3 (av) (numd 1 all).length ((numd 1 all).flatMap recC), .own 34 3 (uv) (numd (all.length + 1) []).length ((numd (all.length + 1) []).flatMap recC)]) (by repeat constructor) ?_
    refine WE.ret1 rfl rfl ?_
    exact ⟨mb, jb, av, uv, all, [], false, rfl, rfl, by omega, by decide, fun _ => rfl⟩
  have h1 : all.length ≤ all.length := Nat.le_refl _
  have h2 : all.length ≤ (all ++ []).length := by rw [List.append_nil]; exact Nat.le_refl _
  have h3 : (all ++ []).take all.length = all := by rw [List.append_nil, List.take_length]
  have h4 : (all ++ ([] : List Rec)).length ≤ 4294967290 := by rw [List.append_nil]; omega
  by_cases hk3 : o.k = 3
  · repeat first
      | refine WC.seq ?_ | refine WC.region ?_
    try refine WL.wanted rfl rfl rfl ?_
    (apply WL.box; exact rfl; exact rfl; exact rfl; intro ob)
    repeat first
      | (apply WL.q; exact rfl; exact rfl; exact rfl; (first | (apply EvW.move; exact rfl) | (apply EvW.assign; exact rfl) | (apply EvW.nilPtr; exact rfl) | (apply EvW.fieldAddr0; exact rfl; exact FldC.eq) | (apply EvW.load; exact rfl; exact ScalC.eq; (focus ((repeat constructor); done)); exact rfl) | (apply EvW.cmpT; exact rfl; exact rfl; exact rfl; omega) | (apply EvW.cmpF; exact rfl; exact rfl; exact rfl; omega)))
      | refine WC.seq ?_ | refine WC.region ?_ | refine WL.nil ?_ | refine WE.next ?_ | refine WC.block ?_ | refine WC.condT rfl ?_ | refine WC.condF rfl ?_
    try refine WL.wanted rfl rfl rfl ?_
    apply WL.callA ([upH jb mb K false all])
    · exact rfl
    · exact rfl
    · exact fun w => Try.call14 _ w
    · (focus ((repeat constructor); done))
    · exact fun w1 S1 hS1 hs1 ho1 => again_up jb mb K false all w1 S1 hS1
    rintro _ _ ⟨q, rfl, rfl⟩
    first | refine WL.app4 ?_ | refine WL.app3 ?_ | refine WL.app2 ?_ | refine WL.app1 ?_ | refine WL.app0 ?_ | skip
    repeat first
      | (apply WL.q; exact rfl; exact rfl; exact rfl; (first | (apply EvW.move; exact rfl) | (apply EvW.nilPtr; exact rfl) | (apply EvW.fieldAddr0; exact rfl; exact FldC.eq) | (apply EvW.load; exact rfl; exact ScalC.eq; (focus ((repeat constructor); done)); exact rfl) | (apply EvW.pneN; exact rfl; exact rfl; exact UndC.eq)))
      | refine WC.seq ?_ | refine WC.region ?_ | refine WL.nil ?_ | refine WE.next ?_ | refine WL.wanted rfl rfl rfl ?_ | (apply WL.store; exact rfl; exact rfl; (first | assumption | exact rfl); exact SzC.eq; (first | assumption | exact rfl); (focus ((repeat constructor); done)))
    try refine WL.wanted rfl rfl rfl ?_
    apply WL.callA ([.blk b #[ptr q 0, ptr jb 0, av, uv] 80, rsH q K true all, .own 34 3 (av) (numd 1 all).length ((numd 1 all).flatMap recC), .own 34 3 (uv) (numd (all.length + 1) []).length ((numd (all.length + 1) []).flatMap recC)])
    · exact rfl
    · exact rfl
    · exact fun w => Try.call27 _ w
    · (focus ((repeat constructor); done))
    · exact fun w1 S1 hS1 hs1 ho1 => lopen_spec b q K true (ptr jb 0) av uv o.cv all [] all o.cs w1 S1 hS1 (hs1 _ ho.cuts) ho.cl h1 h2 h3 h4 (by omega)
    rintro _ _ ⟨mb2, jb2, av2, rfl, rfl⟩
    first | refine WL.app4 ?_ | refine WL.app3 ?_ | refine WL.app2 ?_ | refine WL.app1 ?_ | refine WL.app0 ?_ | skip
    repeat first
      | (apply WL.q; exact rfl; exact rfl; exact rfl; (first | (apply EvW.assign; exact rfl) | (apply EvW.pickT; exact rfl; exact rfl)))
      | refine WL.nil ?_ | refine WE.next ?_ | refine WC.ret ?_ | refine WE.passRet ?_ | refine WE.outRet ?_
    refine WE.keep (xs := [upH jb2 mb2 (K + 4) true all, .blk b #[ptr mb2 0, ptr jb2 0, av2, .slice none 0 0] 80, .own 34 3 (av2) (numd 1 all).length ((numd 1 all).flatMap recC)]) (by repeat constructor) ?_
    refine WE.stUp (K' := K + 4) (und := []) (Nat.le_refl _) .head ?_
    refine WE.conv (fun _ hs => hs.ownNil (e := 34) (sz := 3)) ?_
    refine WE.keep (xs := [.blk b #[ptr mb2 0, ptr jb2 0, av2, .slice none 0 0] 80, stH jb2 mb2 (K + 4) all [] false, .own 34 3 (av2) (numd 1 all).length ((numd 1 all).flatMap recC), .own 34 3 (.slice none 0 0) (numd (all.length + 1) []).length ((numd (all.length + 1) []).flatMap recC)]) (by repeat constructor) ?_
    refine WE.ret1 rfl rfl ?_
    exact ⟨mb2, jb2, av2, .slice none 0 0, all, [], false, rfl, rfl, by omega, by decide, fun _ => rfl⟩
  by_cases hk4 : o.k = 4
  · repeat first
      | refine WC.seq ?_ | refine WC.region ?_
    try refine WL.wanted rfl rfl rfl ?_
    (apply WL.box; exact rfl; exact rfl; exact rfl; intro ob)
    repeat first
      | (apply WL.q; exact rfl; exact rfl; exact rfl; (first | (apply EvW.move; exact rfl) | (apply EvW.assign; exact rfl) | (apply EvW.nilPtr; exact rfl) | (apply EvW.fieldAddr0; exact rfl; exact FldC.eq) | (apply EvW.load; exact rfl; exact ScalC.eq; (focus ((repeat constructor); done)); exact rfl) | (apply EvW.cmpT; exact rfl; exact rfl; exact rfl; omega) | (apply EvW.cmpF; exact rfl; exact rfl; exact rfl; omega)))
      | refine WC.seq ?_ | refine WC.region ?_ | refine WL.nil ?_ | refine WE.next ?_ | refine WC.block ?_ | refine WC.condT rfl ?_ | refine WC.condF rfl ?_
    try refine WL.wanted rfl rfl rfl ?_
    apply WL.callA ([upH jb mb K false all])
    · exact rfl
    · exact rfl
    · exact fun w => Try.call17 _ w
    · (focus ((repeat constructor); done))
    · exact fun w1 S1 hS1 hs1 ho1 => arm_up jb mb K false all (.slice none 0 0) [] true w1 S1 hS1 Sees.nilRow (by decide) (fun _ => rfl)
    rintro _ _ ⟨rfl, rfl⟩
    first | refine WL.app4 ?_ | refine WL.app3 ?_ | refine WL.app2 ?_ | refine WL.app1 ?_ | refine WL.app0 ?_ | skip
    refine WL.conv (fun _ hs => St.rsUp (by repeat constructor) hs) ?_
    repeat first
      | (apply WL.q; exact rfl; exact rfl; exact rfl; (first | (apply EvW.move; exact rfl)))
      | refine WC.seq ?_ | refine WC.region ?_ | refine WL.nil ?_ | refine WE.next ?_
    try refine WL.wanted rfl rfl rfl ?_
    apply WL.callA ([.blk b #[ptr mb 0, ptr jb 0, av, uv] 80, rsH mb K true all, .own 34 3 (av) (numd 1 all).length ((numd 1 all).flatMap recC), .own 34 3 (uv) (numd (all.length + 1) []).length ((numd (all.length + 1) []).flatMap recC)])
    · exact rfl
    · exact rfl
    · exact fun w => Try.call27 _ w
    · (focus ((repeat constructor); done))
    · exact fun w1 S1 hS1 hs1 ho1 => lopen_spec b mb K true (ptr jb 0) av uv (.slice none 0 0) all [] all [] w1 S1 hS1 Sees.nilRow (by decide) h1 h2 h3 h4 (by omega)
    rintro _ _ ⟨mb2, jb2, av2, rfl, rfl⟩
    first | refine WL.app4 ?_ | refine WL.app3 ?_ | refine WL.app2 ?_ | refine WL.app1 ?_ | refine WL.app0 ?_ | skip
    repeat first
      | (apply WL.q; exact rfl; exact rfl; exact rfl; (first | (apply EvW.assign; exact rfl)))
      | refine WL.nil ?_ | refine WE.next ?_ | refine WC.ret ?_ | refine WE.passRet ?_ | refine WE.outRet ?_
    refine WE.keep (xs := [upH jb2 mb2 (K + 4) true all, .blk b #[ptr mb2 0, ptr jb2 0, av2, .slice none 0 0] 80, .own 34 3 (av2) (numd 1 all).length ((numd 1 all).flatMap recC)]) (by repeat constructor) ?_
    refine WE.stUp (K' := K + 4) (und := []) (Nat.le_refl _) .head ?_
    refine WE.conv (fun _ hs => hs.ownNil (e := 34) (sz := 3)) ?_
    refine WE.keep (xs := [.blk b #[ptr mb2 0, ptr jb2 0, av2, .slice none 0 0] 80, stH jb2 mb2 (K + 4) all [] false, .own 34 3 (av2) (numd 1 all).length ((numd 1 all).flatMap recC), .own 34 3 (.slice none 0 0) (numd (all.length + 1) []).length ((numd (all.length + 1) []).flatMap recC)]) (by repeat constructor) ?_
    refine WE.ret1 rfl rfl ?_
    exact ⟨mb2, jb2, av2, .slice none 0 0, all, [], false, rfl, rfl, by omega, by decide, fun _ => rfl⟩
  repeat first
    | refine WC.seq ?_ | refine WC.region ?_
  try refine WL.wanted rfl rfl rfl ?_
  (apply WL.box; exact rfl; exact rfl; exact rfl; intro ob)
  repeat first
    | (apply WL.q; exact rfl; exact rfl; exact rfl; (first | (apply EvW.assign; exact rfl) | (apply EvW.fieldAddr0; exact rfl; exact FldC.eq) | (apply EvW.load; exact rfl; exact ScalC.eq; (focus ((repeat constructor); done)); exact rfl) | (apply EvW.cmpF; exact rfl; exact rfl; exact rfl; omega)))
    | refine WC.seq ?_ | refine WC.region ?_ | refine WL.nil ?_ | refine WE.next ?_ | refine WC.block ?_ | refine WC.skip ?_ | refine WE.out ?_ | refine WC.condF rfl ?_ | refine WC.ret ?_
  refine WE.keep (xs := [upH jb mb K false all, .blk b #[ptr mb 0, ptr jb 0, av, uv] 80, .own 34 3 (av) (numd 1 all).length ((numd 1 all).flatMap recC), .own 34 3 (uv) (numd (all.length + 1) []).length ((numd (all.length + 1) []).flatMap recC)]) (by repeat constructor) ?_
  refine WE.stUp (K' := K + 4) (und := []) (by omega) .head ?_
  refine WE.keep (xs := [.blk b #[ptr mb 0, ptr jb 0, av, uv] 80, stH jb mb (K + 4) all [] false, .own 34 3 (av) (numd 1 all).length ((numd 1 all).flatMap recC), .own 34 3 (uv) (numd (all.length + 1) []).length ((numd (all.length + 1) []).flatMap recC)]) (by repeat constructor) ?_
  refine WE.ret1 rfl rfl ?_
  exact ⟨mb, jb, av, uv, all, [], false, rfl, rfl, by omega, by decide, fun _ => rfl⟩
end Go.Proofs.Ytknclcjmfgdphaa
namespace Go.Proofs.Ytknclcjmfgdphaa
open Go.RowKit Go.BK
set_option maxHeartbeats 4000000 in
set_option maxRecDepth 8000 in
theorem step_dn (b mb jb K : Nat) (av uv : Value) (all und : List Rec) (o : Op8) (w : World) (S : BSet) (hS : (sepL [.blk b #[ptr mb 0, ptr jb 0, av, uv] 80, dnH mb K (fun x => x = all ∨ x = all ++ und), .own 34 3 (av) (numd 1 all).length ((numd 1 all).flatMap recC), .own 34 3 (uv) (numd (all.length + 1) und).length ((numd (all.length + 1) und).flatMap recC)]).sat S w) (ho : o.Ok w S) (hK : K ≤ 1099511600000) (hfew : all.length ≤ 4294967280) (hun : und.length ≤ 1) :
    Tri Try.prog 28 #[ptr b 0, .agg #[i64 3, i64 o.r.kind, str o.r.text, o.cv]] w S fun u A => StepR b (K + 4) (all.length + 1) u A := by
  refine Tri.enter (l := [ptr b 0, .agg #[i64 3, i64 o.r.kind, str o.r.text, o.cv]]) Try.func28 rfl Try.ntmps28 rfl [(0, ptr b 0), (1, .agg #[i64 3, i64 o.r.kind, str o.r.text, o.cv])] (subA rfl) hS ?_
  have hcv := ho.cuts.row_one
  (first | refine WL.slOwn (v := av) (by repeat constructor) ?_ | refine WC.slOwn (v := av) (by repeat constructor) ?_)
  intro hc_av ho_av
  (first | refine WL.slOwn (v := uv) (by repeat constructor) ?_ | refine WC.slOwn (v := uv) (by repeat constructor) ?_)
  intro hc_uv ho_uv
  repeat first
    | refine WC.seq ?_ | refine WC.region ?_
  try refine WL.wanted rfl rfl rfl ?_
  (apply WL.box; exact rfl; exact rfl; exact rfl; intro ob)
  repeat first
    | (apply WL.q; exact rfl; exact rfl; exact rfl; (first | (apply EvW.move; exact rfl) | (apply EvW.assign; exact rfl) | (apply EvW.nilPtr; exact rfl) | (apply EvW.fieldAddr0; exact rfl; exact FldC.eq) | (apply EvW.load; exact rfl; exact ScalC.eq; (focus ((repeat constructor); done)); exact rfl) | (apply EvW.cmpT; exact rfl; exact rfl; exact rfl; omega) | (apply EvW.cmpF; exact rfl; exact rfl; exact rfl; omega)))
    | refine WC.seq ?_ | refine WC.region ?_ | refine WL.nil ?_ | refine WE.next ?_ | refine WC.block ?_ | refine WC.condT rfl ?_ | refine WC.condF rfl ?_
  try refine WL.wanted rfl rfl rfl ?_
  apply WL.callA ([dnH mb K (fun x => x = all ∨ x = all ++ und)])
  · exact rfl
  · exact rfl
  · exact fun w => Try.call14 _ w
  · (focus ((repeat constructor); done))
  · exact fun w1 S1 hS1 hs1 ho1 => again_dn mb K (fun x => x = all ∨ x = all ++ und) w1 S1 hS1
  rintro _ _ ⟨q, x, rfl, hq, rfl⟩
  first | refine WL.app4 ?_ | refine WL.app3 ?_ | refine WL.app2 ?_ | refine WL.app1 ?_ | refine WL.app0 ?_ | skip
  have hml : (all ++ und).length = all.length + und.length := List.length_append
  have h1 : all.length ≤ x.length := by
    rcases hq with h | h
    · rw [h]; exact Nat.le_refl _
    · rw [h, hml]; omega
  have h2 : x.length ≤ (all ++ und).length := by
    rcases hq with h | h
    · rw [h]; omega
    · rw [h]; exact Nat.le_refl _
  have h3 : (all ++ und).take x.length = x := by
    rcases hq with h | h
    · rw [h, List.take_left]
    · rw [h, List.take_length]
  repeat first
    | (apply WL.q; exact rfl; exact rfl; exact rfl; (first | (apply EvW.move; exact rfl) | (apply EvW.nilPtr; exact rfl) | (apply EvW.fieldAddr0; exact rfl; exact FldC.eq) | (apply EvW.load; exact rfl; exact ScalC.eq; (focus ((repeat constructor); done)); exact rfl) | (apply EvW.pneN; exact rfl; exact rfl; exact UndC.eq)))
    | refine WC.seq ?_ | refine WC.region ?_ | refine WL.nil ?_ | refine WE.next ?_ | refine WL.wanted rfl rfl rfl ?_ | (apply WL.store; exact rfl; exact rfl; (first | assumption | exact rfl); exact SzC.eq; (first | assumption | exact rfl); (focus ((repeat constructor); done)))
  try refine WL.wanted rfl rfl rfl ?_
  apply WL.callA ([.blk b #[ptr q 0, ptr jb 0, av, uv] 80, rsH q K true x, .own 34 3 (av) (numd 1 all).length ((numd 1 all).flatMap recC), .own 34 3 (uv) (numd (all.length + 1) und).length ((numd (all.length + 1) und).flatMap recC)])
  · exact rfl
  · exact rfl
  · exact fun w => Try.call27 _ w
  · (focus ((repeat constructor); done))
  · exact fun w1 S1 hS1 hs1 ho1 => lopen_spec b q K true (ptr jb 0) av uv o.cv all und x o.cs w1 S1 hS1 (hs1 _ ho.cuts) ho.cl h1 h2 h3 (by omega) (by omega)
  rintro _ _ ⟨mb2, jb2, av2, rfl, rfl⟩
  first | refine WL.app4 ?_ | refine WL.app3 ?_ | refine WL.app2 ?_ | refine WL.app1 ?_ | refine WL.app0 ?_ | skip
  repeat first
    | (apply WL.q; exact rfl; exact rfl; exact rfl; (first | (apply EvW.assign; exact rfl) | (apply EvW.pickT; exact rfl; exact rfl)))
    | refine WL.nil ?_ | refine WE.next ?_ | refine WC.ret ?_ | refine WE.passRet ?_ | refine WE.outRet ?_
  refine WE.keep (xs := [upH jb2 mb2 (K + 4) true x, .blk b #[ptr mb2 0, ptr jb2 0, av2, .slice none 0 0] 80, .own 34 3 (av2) (numd 1 x).length ((numd 1 x).flatMap recC)]) (by repeat constructor) ?_
  refine WE.stUp (K' := K + 4) (und := []) (Nat.le_refl _) .head ?_
  refine WE.conv (fun _ hs => hs.ownNil (e := 34) (sz := 3)) ?_
  refine WE.keep (xs := [.blk b #[ptr mb2 0, ptr jb2 0, av2, .slice none 0 0] 80, stH jb2 mb2 (K + 4) x [] false, .own 34 3 (av2) (numd 1 x).length ((numd 1 x).flatMap recC), .own 34 3 (.slice none 0 0) (numd (x.length + 1) []).length ((numd (x.length + 1) []).flatMap recC)]) (by repeat constructor) ?_
  refine WE.ret1 rfl rfl ?_
  exact ⟨mb2, jb2, av2, .slice none 0 0, x, [], false, rfl, rfl, by omega, by decide, fun _ => rfl⟩
theorem op8_at {xs : List Op8} {w : World} {S : BSet} (h : ∀ x ∈ xs, x.Ok w S) {i : Nat} (hi : i < xs.length) : (xs.getD i default).Ok w S := by
  rw [List.getD_eq_getElem?_getD, List.getElem?_eq_getElem hi]
  exact h _ (List.getElem_mem hi)
theorem op8_one {x : Op8} {w : World} {S : BSet} (h : x.Ok w S) : (op8C x).all (·.oneCell') = true := by
  have h2 := h.cuts.row_one
  simp [op8C, h2]
  refine ⟨rfl, rfl, rfl⟩
theorem op8_down {o : Op8} {w w1 : World} {S S1 : BSet} (h : o.Ok w S) (hs1 : ∀ B, Sees w S B → Sees w1 S1 B) : o.Ok w1 S1 := ⟨hs1 _ h.cuts, h.cl, h.tl⟩
def backO : Op8 := ⟨3, ⟨0, []⟩, .slice none 0 0, []⟩
theorem backO_ok (w : World) (S : BSet) : backO.Ok w S := ⟨Sees.nilRow, by decide, by decide⟩
set_option maxHeartbeats 8000000 in
set_option maxRecDepth 8000 in
theorem play_spec (v : Value) (xs : List Op8) (w : World) (S : BSet) (hS : (sepL []).sat S w) (hv : Sees w S (.row 4 v xs.length (xs.flatMap op8C))) (hn : xs.length ≤ 1048576) (hx : ∀ x ∈ xs, x.Ok w S) :
    Tri Try.prog 16 #[v] w S fun u A => u = .bool true ∧ A = [] := by
  refine Tri.enter (l := [v]) Try.func16 rfl Try.ntmps16 rfl [(0, v)] (subA rfl) hS ?_
  repeat first
    | (apply WL.q; exact rfl; exact rfl; exact rfl; (first | (apply EvW.assign; exact rfl)))
    | refine WC.seq ?_ | refine WC.region ?_ | refine WL.nil ?_ | refine WE.next ?_
  try refine WL.wanted rfl rfl rfl ?_
  apply WL.callA ([])
  · exact rfl
  · exact rfl
  · exact fun w => Try.call10 _ w
  · (focus ((repeat constructor); done))
  · exact fun w1 S1 hS1 hs1 ho1 => new8 w1 S1 hS1
  rintro _ _ ⟨m0, rfl, rfl⟩
  first | refine WL.app4 ?_ | refine WL.app3 ?_ | refine WL.app2 ?_ | refine WL.app1 ?_ | refine WL.app0 ?_ | skip
  repeat first
    | (apply WL.q; exact rfl; exact rfl; exact rfl; (first | (apply EvW.build; exact PlC.eq; exact ZvC.eq; exact rfl; exact rfl; (focus ((repeat (first | exact Fills.nil | (apply Fills.cons; exact rfl; (first | assumption | exact rfl); exact rfl) | exact SetMany.nil | apply SetMany.cons | apply SetMany.succ)); done)))))
  try refine WL.wanted rfl rfl rfl ?_
  (apply WL.box; exact rfl; exact rfl; exact rfl; intro b)
  refine WL.ownNil 34 3 ?_
  refine WL.ownNil 34 3 ?_
  repeat first
    | (apply WL.q; exact rfl; exact rfl; exact rfl; (first | (apply EvW.move; exact rfl) | (apply EvW.assign; exact rfl)))
    | refine WC.seq ?_ | refine WC.region ?_ | refine WL.nil ?_ | refine WE.next ?_
  try refine WL.wanted rfl rfl rfl ?_
  apply WL.callA ([.blk b #[ptr m0 0, .pointer none, .slice none 0 0, .slice none 0 0] 80, rsH m0 0 true [], .own 34 3 (.slice none 0 0) (numd 1 []).length ((numd 1 []).flatMap recC), .own 34 3 (.slice none 0 0) (numd 1 []).length ((numd 1 []).flatMap recC)])
  · exact rfl
  · exact rfl
  · exact fun w => Try.call27 _ w
  · (focus ((repeat constructor); done))
  · exact fun w1 S1 hS1 hs1 ho1 => lopen_spec b m0 0 true (.pointer none) (.slice none 0 0) (.slice none 0 0) (.slice none 0 0) [] [] [] [] w1 S1 hS1 Sees.nilRow (by decide) (Nat.le_refl _) (Nat.le_refl _) rfl (by decide) (by decide)
  rintro _ _ ⟨m1, j1, a1, rfl, rfl⟩
  first | refine WL.app4 ?_ | refine WL.app3 ?_ | refine WL.app2 ?_ | refine WL.app1 ?_ | refine WL.app0 ?_ | skip
  refine WL.conv (A' := [stH j1 m1 4 [] [] false, .blk b #[ptr m1 0, ptr j1 0, a1, .slice none 0 0] 80, .own 34 3 (a1) (numd 1 []).length ((numd 1 []).flatMap recC), .own 34 3 (.slice none 0 0) (numd 1 []).length ((numd 1 []).flatMap recC)]) (fun _ hs => ?_) ?_
  · have h2 : St w S [upH j1 m1 (0 + 4) true [], .blk b #[ptr m1 0, ptr j1 0, a1, .slice none 0 0] 80, .own 34 3 (a1) (numd 1 []).length ((numd 1 []).flatMap recC), .own 34 3 (.slice none 0 0) (numd 1 []).length ((numd 1 []).flatMap recC)] _ := (hs.ownNil (e := 34) (sz := 3)).keep (by repeat constructor)
    exact h2.mono fun S w h => up_weak h (by decide)
  repeat first
    | (apply WL.q; exact rfl; exact rfl; exact rfl; (first | (apply EvW.move; exact rfl) | (apply EvW.notT; exact rfl) | (apply EvW.lenRow; exact rfl; exact UndC.eq; assumption)))
    | refine WC.seq ?_ | refine WC.region ?_ | refine WL.nil ?_ | refine WE.next ?_ | refine WC.block ?_ | refine WC.skip ?_ | refine WC.condF rfl ?_
  refine WC.loopK (σ := Nat × Nat × Nat × Value × Value × List Rec × List Rec × Bool) [3, 16, 17] (fun s => [(18, i64 s.1)]) (fun s => [.blk b #[ptr s.2.1 0, ptr s.2.2.1 0, s.2.2.2.1, s.2.2.2.2.1] 80, stH s.2.2.1 s.2.1 (4 + 4 * s.1) s.2.2.2.2.2.1 s.2.2.2.2.2.2.1 s.2.2.2.2.2.2.2, .own 34 3 (s.2.2.2.1) (numd 1 s.2.2.2.2.2.1).length ((numd 1 s.2.2.2.2.2.1).flatMap recC), .own 34 3 (s.2.2.2.2.1) (numd (s.2.2.2.2.2.1.length + 1) s.2.2.2.2.2.2.1).length ((numd (s.2.2.2.2.2.1.length + 1) s.2.2.2.2.2.2.1).flatMap recC)]) (fun s => s.1 ≤ xs.length ∧ s.2.2.2.2.2.1.length ≤ s.1 ∧ s.2.2.2.2.2.2.1.length ≤ 1 ∧ (s.2.2.2.2.2.2.2 = false → s.2.2.2.2.2.2.1 = [])) (fun s => xs.length - s.1) (0, m1, j1, a1, .slice none 0 0, [], [], false) (by (focus ((repeat (first | exact Pick.nil | (apply Pick.cons; exact rfl))); done))) (by (focus ((repeat (first | exact trivial | (refine ⟨rfl, ?_⟩))); done))) (fun _ h => h.keep (by repeat constructor)) ⟨Nat.zero_le _, Nat.le_refl _, Nat.zero_le 1, fun _ => rfl⟩ (fun s hs => ?_)
  obtain ⟨i, mb, jb, av, uv, all, und, d⟩ := s
  simp only [List.cons_append, List.nil_append] at hs ⊢
  obtain ⟨hi0, hall, hul, hud⟩ := hs
  by_cases hlt : (i : Int) < xs.length
  · have hxo := op8_at hx (show i < xs.length by omega)
    repeat first
      | (apply WL.q; exact rfl; exact rfl; exact rfl; (first | (apply EvW.cmpT; exact rfl; exact rfl; exact rfl; omega) | (apply EvW.idxRow; exact rfl; exact rfl; exact UndC.eq; exact SzC.eq; assumption; omega; omega)))
      | refine WC.seq ?_ | refine WC.region ?_ | refine WL.nil ?_ | refine WE.next ?_ | refine WC.block ?_ | refine WC.skip ?_ | refine WC.condT rfl ?_
    (apply WL.q; exact rfl; exact rfl; exact rfl; (apply EvW.ldElem (xs := xs) (z := (default : Op8)) (f := op8C); exact rfl; exact AggC.eq; exact SzC.eq; exact rfl; exact fun _ => rfl; assumption; omega))
    rw [show ((i : Nat) : Int).toNat = i from rfl]
    try refine WL.wanted rfl rfl rfl ?_
    (apply WL.alloc; exact rfl; exact ZvC.eq; exact rfl; intro z)
    generalize xs.getD i default = x at hxo
    have hcv := hxo.cuts.row_one
    have hone := op8_one hxo
    cases d with
    | false =>
      obtain rfl := hud rfl
      rw [show stH jb mb (4 + 4 * i) all [] false = upH jb mb (4 + 4 * i) false all from rfl]
      repeat first
        | (apply WL.q; exact rfl; exact rfl; exact rfl; (first | (apply EvW.move; exact rfl) | (apply EvW.nilPtr; exact rfl) | (apply EvW.fieldAddr0; exact rfl; exact FldC.eq) | (apply EvW.load; exact rfl; exact ScalC.eq; (focus ((repeat constructor); done)); exact rfl)))
        | refine WC.seq ?_ | refine WC.region ?_ | refine WL.nil ?_ | refine WE.next ?_ | (apply WL.store; exact rfl; exact rfl; (first | assumption | exact rfl); exact SzC.eq; (first | assumption | exact rfl); (focus ((repeat constructor); done)))
      try refine WL.wanted rfl rfl rfl ?_
      apply WL.callA ([upH jb mb (4 + 4 * i) false all])
      · exact rfl
      · exact rfl
      · exact fun w => Try.call18 _ w
      · (focus ((repeat constructor); done))
      · exact fun w1 S1 hS1 hs1 ho1 => down_up jb mb (4 + 4 * i) false all w1 S1 hS1
      rintro _ _ ⟨rfl, rfl⟩
      first | refine WL.app4 ?_ | refine WL.app3 ?_ | refine WL.app2 ?_ | refine WL.app1 ?_ | refine WL.app0 ?_ | skip
      repeat first
        | (apply WL.q; exact rfl; exact rfl; exact rfl; (first | (apply EvW.move; exact rfl) | (apply EvW.pickF; exact rfl; exact rfl) | (apply EvW.loadAgg; exact rfl; exact AggC.eq; exact SzC.eq; (focus ((repeat constructor); done)); (focus ((repeat (first | exact SubL.nil | apply SubL.cons | apply SubL.succ)); done)))))
        | refine WC.seq ?_ | refine WC.region ?_ | refine WL.nil ?_ | refine WE.next ?_ | refine WC.skip ?_ | refine WC.condF rfl ?_ | refine WL.unwanted rfl rfl rfl rfl ?_
      try refine WL.wanted rfl rfl rfl ?_
      apply WL.callA ([.blk b #[ptr mb 0, ptr jb 0, av, uv] 80, upH jb mb (4 + 4 * i) false all, .own 34 3 (av) (numd 1 all).length ((numd 1 all).flatMap recC), .own 34 3 (uv) (numd (all.length + 1) []).length ((numd (all.length + 1) []).flatMap recC)])
      · exact rfl
      · exact rfl
      · exact fun w => Try.call28 _ w
      · (focus ((repeat constructor); done))
      · exact fun w1 S1 hS1 hs1 ho1 => step_up b mb jb (4 + 4 * i) av uv all x w1 S1 hS1 (op8_down hxo hs1) (by omega) (by omega)
      rintro _ _ ⟨mb2, jb2, av2, uv2, al2, un2, d2, rfl, rfl, hl2, hu2, hd2⟩
      first | refine WL.app4 ?_ | refine WL.app3 ?_ | refine WL.app2 ?_ | refine WL.app1 ?_ | refine WL.app0 ?_ | skip
      rw [show 4 + 4 * i + 4 = 4 + 4 * (i + 1) by omega]
      repeat first
        | (apply WL.q; exact rfl; exact rfl; exact rfl; (first | (apply EvW.move; exact rfl) | (apply EvW.arN; exact rfl; exact rfl; exact rfl; refine i64_in ?_ ?_ <;> omega) | (apply EvW.notT; exact rfl)))
        | refine WC.region ?_ | refine WL.nil ?_ | refine WE.next ?_ | refine WC.skip ?_ | refine WE.out ?_ | refine WC.condF rfl ?_
      exact WE.again (s := (i, mb, jb, av, uv, all, ([] : List Rec), false)) ((i + 1, mb2, jb2, av2, uv2, al2, un2, d2)) ⟨by (simp only []; omega), by (simp only []; omega), hu2, hd2⟩ (by (focus ((repeat (first | exact trivial | (refine ⟨rfl, ?_⟩))); done))) (fun _ h => (by (try simp only []); exact h.keep (by repeat constructor))) (by (try simp only []); omega)
    | true =>
      rw [show stH jb mb (4 + 4 * i) all und true = dnH mb (4 + 4 * i) (fun x => x = all ∨ x = all ++ und) from rfl]
      by_cases hk : x.k = 3
      · repeat first
          | (apply WL.q; exact rfl; exact rfl; exact rfl; (first | (apply EvW.move; exact rfl) | (apply EvW.nilPtr; exact rfl) | (apply EvW.fieldAddr0; exact rfl; exact FldC.eq) | (apply EvW.load; exact rfl; exact ScalC.eq; (focus ((repeat constructor); done)); exact rfl)))
          | refine WC.seq ?_ | refine WC.region ?_ | refine WL.nil ?_ | refine WE.next ?_ | (apply WL.store; exact rfl; exact rfl; (first | assumption | exact rfl); exact SzC.eq; (first | assumption | exact rfl); (focus ((repeat constructor); done)))
        try refine WL.wanted rfl rfl rfl ?_
        apply WL.callA ([dnH mb (4 + 4 * i) (fun x => x = all ∨ x = all ++ und)])
        · exact rfl
        · exact rfl
        · exact fun w => Try.call18 _ w
        · (focus ((repeat constructor); done))
        · exact fun w1 S1 hS1 hs1 ho1 => down_dn mb (4 + 4 * i) (fun x => x = all ∨ x = all ++ und) w1 S1 hS1
        rintro _ _ ⟨rfl, rfl⟩
        first | refine WL.app4 ?_ | refine WL.app3 ?_ | refine WL.app2 ?_ | refine WL.app1 ?_ | refine WL.app0 ?_ | skip
        rw [hk]
        repeat first
          | (apply WL.q; exact rfl; exact rfl; exact rfl; (first | (apply EvW.move; exact rfl) | (apply EvW.fieldAddr0; exact rfl; exact FldC.eq) | (apply EvW.load; exact rfl; exact ScalC.eq; (focus ((repeat constructor); done)); exact rfl) | (apply EvW.cmpF; exact rfl; exact rfl; exact rfl; omega) | (apply EvW.pickT; exact rfl; exact rfl) | (apply EvW.loadAgg; exact rfl; exact AggC.eq; exact SzC.eq; (focus ((repeat constructor); done)); (focus ((repeat (first | exact SubL.nil | apply SubL.cons | apply SubL.succ)); done)))))
          | refine WC.seq ?_ | refine WC.region ?_ | refine WL.nil ?_ | refine WE.next ?_ | refine WC.skip ?_ | refine WC.condF rfl ?_ | refine WL.wanted rfl rfl rfl ?_
        try refine WL.wanted rfl rfl rfl ?_
        apply WL.callA ([.blk b #[ptr mb 0, ptr jb 0, av, uv] 80, dnH mb (4 + 4 * i) (fun x => x = all ∨ x = all ++ und), .own 34 3 (av) (numd 1 all).length ((numd 1 all).flatMap recC), .own 34 3 (uv) (numd (all.length + 1) und).length ((numd (all.length + 1) und).flatMap recC)])
        · exact rfl
        · exact rfl
        · exact fun w => Try.call28 _ w
        · (focus ((repeat constructor); done))
        · exact fun w1 S1 hS1 hs1 ho1 => step_dn b mb jb (4 + 4 * i) av uv all und x w1 S1 hS1 (op8_down hxo hs1) (by omega) (by omega) hul
        rintro _ _ ⟨mb2, jb2, av2, uv2, al2, un2, d2, rfl, rfl, hl2, hu2, hd2⟩
        first | refine WL.app4 ?_ | refine WL.app3 ?_ | refine WL.app2 ?_ | refine WL.app1 ?_ | refine WL.app0 ?_ | skip
        rw [show 4 + 4 * i + 4 = 4 + 4 * (i + 1) by omega]
        repeat first
          | (apply WL.q; exact rfl; exact rfl; exact rfl; (first | (apply EvW.move; exact rfl) | (apply EvW.arN; exact rfl; exact rfl; exact rfl; refine i64_in ?_ ?_ <;> omega) | (apply EvW.notT; exact rfl)))
          | refine WC.region ?_ | refine WL.nil ?_ | refine WE.next ?_ | refine WC.skip ?_ | refine WE.out ?_ | refine WC.condF rfl ?_
        exact WE.again (s := (i, mb, jb, av, uv, all, und, true)) ((i + 1, mb2, jb2, av2, uv2, al2, un2, d2)) ⟨by (simp only []; omega), by (simp only []; omega), hu2, hd2⟩ (by (focus ((repeat (first | exact trivial | (refine ⟨rfl, ?_⟩))); done))) (fun _ h => (by (try simp only []); exact h.keep (by repeat constructor))) (by (try simp only []); omega)
      · repeat first
          | (apply WL.q; exact rfl; exact rfl; exact rfl; (first | (apply EvW.move; exact rfl) | (apply EvW.nilPtr; exact rfl) | (apply EvW.fieldAddr0; exact rfl; exact FldC.eq) | (apply EvW.load; exact rfl; exact ScalC.eq; (focus ((repeat constructor); done)); exact rfl)))
          | refine WC.seq ?_ | refine WC.region ?_ | refine WL.nil ?_ | refine WE.next ?_ | (apply WL.store; exact rfl; exact rfl; (first | assumption | exact rfl); exact SzC.eq; (first | assumption | exact rfl); (focus ((repeat constructor); done)))
        try refine WL.wanted rfl rfl rfl ?_
        apply WL.callA ([dnH mb (4 + 4 * i) (fun x => x = all ∨ x = all ++ und)])
        · exact rfl
        · exact rfl
        · exact fun w => Try.call18 _ w
        · (focus ((repeat constructor); done))
        · exact fun w1 S1 hS1 hs1 ho1 => down_dn mb (4 + 4 * i) (fun x => x = all ∨ x = all ++ und) w1 S1 hS1
        rintro _ _ ⟨rfl, rfl⟩
        first | refine WL.app4 ?_ | refine WL.app3 ?_ | refine WL.app2 ?_ | refine WL.app1 ?_ | refine WL.app0 ?_ | skip
        repeat first
          | (apply WL.q; exact rfl; exact rfl; exact rfl; (first | (apply EvW.move; exact rfl) | (apply EvW.fieldAddr0; exact rfl; exact FldC.eq) | (apply EvW.load; exact rfl; exact ScalC.eq; (focus ((repeat constructor); done)); exact rfl) | (apply EvW.cmpT; exact rfl; exact rfl; exact rfl; omega) | (apply EvW.pickT; exact rfl; exact rfl) | (apply EvW.loadAgg; exact rfl; exact AggC.eq; exact SzC.eq; (focus ((repeat constructor); done)); (focus ((repeat (first | exact SubL.nil | apply SubL.cons | apply SubL.succ)); done))) | (apply EvW.build; exact PlC.eq; exact ZvC.eq; exact rfl; exact rfl; (focus ((repeat (first | exact Fills.nil | (apply Fills.cons; exact rfl; (first | assumption | exact rfl); exact rfl) | exact SetMany.nil | apply SetMany.cons | apply SetMany.succ)); done)))))
          | refine WC.seq ?_ | refine WC.region ?_ | refine WL.nil ?_ | refine WE.next ?_ | refine WC.condT rfl ?_ | refine WL.wanted rfl rfl rfl ?_ | (apply WL.store; exact rfl; exact rfl; (first | assumption | exact rfl); exact SzC.eq; (first | assumption | exact rfl); (focus ((repeat constructor); done)))
        try refine WL.wanted rfl rfl rfl ?_
        apply WL.callA ([.blk b #[ptr mb 0, ptr jb 0, av, uv] 80, dnH mb (4 + 4 * i) (fun x => x = all ∨ x = all ++ und), .own 34 3 (av) (numd 1 all).length ((numd 1 all).flatMap recC), .own 34 3 (uv) (numd (all.length + 1) und).length ((numd (all.length + 1) und).flatMap recC)])
        · exact rfl
        · exact rfl
        · exact fun w => Try.call28 _ w
        · (focus ((repeat constructor); done))
        · exact fun w1 S1 hS1 hs1 ho1 => step_dn b mb jb (4 + 4 * i) av uv all und backO w1 S1 hS1 (backO_ok _ _) (by omega) (by omega) hul
        rintro _ _ ⟨mb2, jb2, av2, uv2, al2, un2, d2, rfl, rfl, hl2, hu2, hd2⟩
        first | refine WL.app4 ?_ | refine WL.app3 ?_ | refine WL.app2 ?_ | refine WL.app1 ?_ | refine WL.app0 ?_ | skip
        rw [show 4 + 4 * i + 4 = 4 + 4 * (i + 1) by omega]
        repeat first
          | (apply WL.q; exact rfl; exact rfl; exact rfl; (first | (apply EvW.move; exact rfl) | (apply EvW.arN; exact rfl; exact rfl; exact rfl; refine i64_in ?_ ?_ <;> omega) | (apply EvW.notT; exact rfl)))
          | refine WC.region ?_ | refine WL.nil ?_ | refine WE.next ?_ | refine WC.skip ?_ | refine WE.out ?_ | refine WC.condF rfl ?_
        exact WE.again (s := (i, mb, jb, av, uv, all, und, true)) ((i + 1, mb2, jb2, av2, uv2, al2, un2, d2)) ⟨by (simp only []; omega), by (simp only []; omega), hu2, hd2⟩ (by (focus ((repeat (first | exact trivial | (refine ⟨rfl, ?_⟩))); done))) (fun _ h => (by (try simp only []); exact h.keep (by repeat constructor))) (by (try simp only []); omega)
  · cases d with
    | false =>
      obtain rfl := hud rfl
      rw [show stH jb mb (4 + 4 * i) all [] false = upH jb mb (4 + 4 * i) false all from rfl]
      repeat first
        | (apply WL.q; exact rfl; exact rfl; exact rfl; (first | (apply EvW.move; exact rfl) | (apply EvW.nilPtr; exact rfl) | (apply EvW.fieldAddr0; exact rfl; exact FldC.eq) | (apply EvW.load; exact rfl; exact ScalC.eq; (focus ((repeat constructor); done)); exact rfl) | (apply EvW.cmpF; exact rfl; exact rfl; exact rfl; omega)))
        | refine WC.seq ?_ | refine WC.region ?_ | refine WL.nil ?_ | refine WE.next ?_ | refine WC.exit ?_ | refine WE.pass ?_ | refine WE.hit ?_ | refine WC.condF rfl ?_
      try refine WL.wanted rfl rfl rfl ?_
      apply WL.callA ([upH jb mb (4 + 4 * i) false all])
      · exact rfl
      · exact rfl
      · exact fun w => Try.call18 _ w
      · (focus ((repeat constructor); done))
      · exact fun w1 S1 hS1 hs1 ho1 => down_up jb mb (4 + 4 * i) false all w1 S1 hS1
      rintro _ _ ⟨rfl, rfl⟩
      first | refine WL.app4 ?_ | refine WL.app3 ?_ | refine WL.app2 ?_ | refine WL.app1 ?_ | refine WL.app0 ?_ | skip
      repeat first
        | (apply WL.q; exact rfl; exact rfl; exact rfl; (first | (apply EvW.move; exact rfl) | (apply EvW.nilPtr; exact rfl) | (apply EvW.fieldAddr0; exact rfl; exact FldC.eq) | (apply EvW.load; exact rfl; exact ScalC.eq; (focus ((repeat constructor); done)); exact rfl)))
        | refine WC.seq ?_ | refine WC.region ?_ | refine WL.nil ?_ | refine WE.next ?_ | refine WC.skip ?_ | refine WC.condF rfl ?_
      try refine WL.wanted rfl rfl rfl ?_
      apply WL.callA ([upH jb mb (4 + 4 * i) false all])
      · exact rfl
      · exact rfl
      · exact fun w => Try.call15 _ w
      · (focus ((repeat constructor); done))
      · exact fun w1 S1 hS1 hs1 ho1 => safe_up jb mb (4 + 4 * i) false all w1 S1 hS1
      rintro _ _ ⟨rfl, rfl⟩
      first | refine WL.app4 ?_ | refine WL.app3 ?_ | refine WL.app2 ?_ | refine WL.app1 ?_ | refine WL.app0 ?_ | skip
      repeat first
        | (apply WL.q; exact rfl; exact rfl; exact rfl; (first | (apply EvW.move; exact rfl) | (apply EvW.assign; exact rfl) | (apply EvW.nilPtr; exact rfl) | (apply EvW.fieldAddr0; exact rfl; exact FldC.eq) | (apply EvW.load; exact rfl; exact ScalC.eq; (focus ((repeat constructor); done)); exact rfl) | (apply EvW.extract; exact rfl; exact rfl)))
        | refine WC.seq ?_ | refine WC.region ?_ | refine WL.nil ?_ | refine WE.next ?_
      try refine WL.wanted rfl rfl rfl ?_
      apply WL.callA ([])
      · exact rfl
      · exact rfl
      · exact fun w => Try.call29 _ w
      · (focus ((repeat constructor); done))
      · exact fun w1 S1 hS1 hs1 ho1 => rsafe_spec av all w1 S1 hS1 (by have h := (ho1 (.own 34 3 (av) (numd 1 all).length ((numd 1 all).flatMap recC)) _ (by repeat constructor)).own; rw [numd_len] at h; exact h) (by omega)
      rintro _ _ ⟨rfl, rfl⟩
      first | refine WL.app4 ?_ | refine WL.app3 ?_ | refine WL.app2 ?_ | refine WL.app1 ?_ | refine WL.app0 ?_ | skip
      repeat first
        | (apply WL.q; exact rfl; exact rfl; exact rfl; (first | (apply EvW.move; exact rfl) | (apply EvW.assign; exact rfl) | (apply EvW.extract; exact rfl; exact rfl) | (apply EvW.pickT; exact rfl; exact rfl) | (apply EvW.seqS; exact rfl; exact rfl) | (apply EvW.beqS; exact rfl; exact rfl; exact UndC.eq)))
        | refine WC.seq ?_ | refine WC.region ?_ | refine WL.nil ?_ | refine WE.next ?_ | refine WC.ret ?_ | refine WL.wanted rfl rfl rfl ?_
      refine WE.keep (xs := []) (by repeat constructor) ?_
      refine WE.ret1 rfl rfl ?_
      exact ⟨rfl, rfl⟩
    | true =>
      rw [show stH jb mb (4 + 4 * i) all und true = dnH mb (4 + 4 * i) (fun x => x = all ∨ x = all ++ und) from rfl]
      repeat first
        | (apply WL.q; exact rfl; exact rfl; exact rfl; (first | (apply EvW.move; exact rfl) | (apply EvW.nilPtr; exact rfl) | (apply EvW.fieldAddr0; exact rfl; exact FldC.eq) | (apply EvW.load; exact rfl; exact ScalC.eq; (focus ((repeat constructor); done)); exact rfl) | (apply EvW.cmpF; exact rfl; exact rfl; exact rfl; omega)))
        | refine WC.seq ?_ | refine WC.region ?_ | refine WL.nil ?_ | refine WE.next ?_ | refine WC.exit ?_ | refine WE.pass ?_ | refine WE.hit ?_ | refine WC.condF rfl ?_
      try refine WL.wanted rfl rfl rfl ?_
      apply WL.callA ([dnH mb (4 + 4 * i) (fun x => x = all ∨ x = all ++ und)])
      · exact rfl
      · exact rfl
      · exact fun w => Try.call18 _ w
      · (focus ((repeat constructor); done))
      · exact fun w1 S1 hS1 hs1 ho1 => down_dn mb (4 + 4 * i) (fun x => x = all ∨ x = all ++ und) w1 S1 hS1
      rintro _ _ ⟨rfl, rfl⟩
      first | refine WL.app4 ?_ | refine WL.app3 ?_ | refine WL.app2 ?_ | refine WL.app1 ?_ | refine WL.app0 ?_ | skip
      repeat first
        | (apply WL.q; exact rfl; exact rfl; exact rfl; (first | (apply EvW.move; exact rfl) | (apply EvW.build; exact PlC.eq; exact ZvC.eq; exact rfl; exact rfl; (focus ((repeat (first | exact Fills.nil | (apply Fills.cons; exact rfl; (first | assumption | exact rfl); exact rfl) | exact SetMany.nil | apply SetMany.cons | apply SetMany.succ)); done)))))
        | refine WC.seq ?_ | refine WC.region ?_ | refine WL.nil ?_ | refine WE.next ?_ | refine WC.condT rfl ?_
      try refine WL.wanted rfl rfl rfl ?_
      apply WL.callA ([.blk b #[ptr mb 0, ptr jb 0, av, uv] 80, dnH mb (4 + 4 * i) (fun x => x = all ∨ x = all ++ und), .own 34 3 (av) (numd 1 all).length ((numd 1 all).flatMap recC), .own 34 3 (uv) (numd (all.length + 1) und).length ((numd (all.length + 1) und).flatMap recC)])
      · exact rfl
      · exact rfl
      · exact fun w => Try.call28 _ w
      · (focus ((repeat constructor); done))
      · exact fun w1 S1 hS1 hs1 ho1 => step_dn b mb jb (4 + 4 * i) av uv all und backO w1 S1 hS1 (backO_ok _ _) (by omega) (by omega) hul
      rintro _ _ ⟨mb2, jb2, av2, uv2, al2, un2, d2, rfl, rfl, hl2, hu2, hd2⟩
      first | refine WL.app4 ?_ | refine WL.app3 ?_ | refine WL.app2 ?_ | refine WL.app1 ?_ | refine WL.app0 ?_ | skip
      repeat first
        | (apply WL.q; exact rfl; exact rfl; exact rfl; (first | (apply EvW.assign; exact rfl)))
        | refine WL.nil ?_ | refine WE.next ?_ | refine WC.ret ?_ | refine WE.passRet ?_
      refine WE.keep (xs := []) (by repeat constructor) ?_
      refine WE.ret1 rfl rfl ?_
      exact ⟨rfl, rfl⟩
end Go.Proofs.Ytknclcjmfgdphaa
namespace Go.BK
open Go.RowKit
structure WA (P : Program) (w0 : World) (S0 : BSet) (n : Nat) (ops : List Oper) (Q : Exit → Act → World → Prop) (F : Fr) (A : List HP) : Prop where
  go : ∀ a w, Agr n F a → St w0 S0 A w → wpAny P .any ops.toArray Q ops.toArray.size (Array.replicate ops.toArray.size false) a w
section
variable {P : Program} {w0 : World} {S0 : BSet} {n : Nat} {ops : List Oper} {F0 : Fr} {tok : Ch → List HP} {pros cons : List (Option Nat)} {nv : List (Nat × (Nat × Value → Value))}
theorem WA.par {Q : Exit → Act → World → Prop} {F : Fr} {A : List HP} {all : Ch → Done} (F0 : Fr) (tok : Ch → List HP) (pros cons : List (Option Nat)) (nv : List (Nat × (Nat × Value → Value))) (hr : Restr (dsts ops) [] F F0) (hA : ∀ c, SelT (pros.map fun p => p.isNone) (tok c) [] A)
    (hslots : slotsOk F0 ops [] = true) (hdst : ops.all (fun o => o.dst.all fun d => Nat.blt d n) = true) (hg : (edgesAll 0 ops && gOk ops pros cons) = true)
    (hd : ∀ c, Par P w0 S0 n ops F0 tok pros cons nv c 0 [] ops (all c))
    (hindA : AllN (fun i => ∀ c x, IndA ops i ops.length (all (c.upd i x)) (all c)) nv) (hindT : AllN (fun i => ∀ c x, IndT ops i pros (tok (c.upd i x)) (tok c)) nv)
    (hlen : ∀ c, (tok c).length = pros.length)
    (h : ∀ c, ∃ Z, SelT (cons.map fun p => p.isNone) (tok c) [] Z ∧ WE w0 S0 n Q .normal (allF F0 (all c)) Z) : WA P w0 S0 n ops Q F A := by
  refine ⟨fun a w ha hs => ?_⟩
  rw [Bool.and_eq_true] at hg
  have hsub : Sub F0 F := Sub.refl' hr F fun t v h => hr.get t v rfl h
  have hall : ∀ c, (all c).reverse.map (·.1) = ops := fun c => by
    obtain ⟨more, h1, h2, _⟩ := (hd c).ok rfl hg.1
    simp only [List.reverse_nil, List.nil_append] at h1
    rw [h1]; exact h2
  have hal : ∀ c, (all c).length = ops.length := fun c => by have := congrArg List.length (hall c); simpa using this
  have hg1 : ∀ t, (pros.map fun p => p.isNone).getD t false = true → (pros.getD t none).isNone = true := by
    intro t ht
    rw [List.getD_eq_getElem?_getD, List.getElem?_map] at ht
    rw [List.getD_eq_getElem?_getD]
    cases hp : pros[t]? with
    | none => rfl
    | some p => rw [hp] at ht; exact ht
  refine par_all (w0 := w0) (S0 := S0) (P := P) (all := fun c => (all c).reverse) (tok := tok) (pros := pros) (cons := cons) (nv := nv) hall (fun c i o v hi => ?_) hslots hdst hg.2 hlen (fun i hi c x j hj => ?_) (fun i hi c x t ht => ((hindT.at i hi) c x).at.2.2 t ht) (fun c a w ha hs => ?_) _ _ _ _ ?_ ⟨by simp, ?_, ha.sub hsub, ?_⟩
  · obtain ⟨more, h1, h2, h3⟩ := (hd c).ok rfl hg.1
    simp only [List.reverse_nil, List.nil_append] at h1
    have := h3 i o v (by rw [← h1]; exact hi)
    simpa using this
  · exact (((hindA.at i hi) c x).at (hal _).symm).2 j hj
  · obtain ⟨Z, hZ, hE⟩ := h c
    refine hE.go a w ⟨ha.defers, ha.size, fun t u ht => ha.get t u (allF_rev hslots (hall c) ht)⟩ (hs.sel fun S w hs => ?_)
    have := hZ.at
    rw [this, List.append_nil]
    have hcl : cons.length = (tok c).length := by have := hZ.len; simpa using this
    rw [selF_congr (g := fun t => (cons.map fun p => p.isNone).getD t false) (tok c) (tok c) 0 rfl (fun t ht => ?_) (fun _ _ => rfl)] at hs
    · exact hs
    · rw [Nat.zero_add, List.getD_eq_getElem?_getD, List.getD_eq_getElem?_getD, List.getElem?_map, List.getElem?_eq_getElem (by omega)]; rfl
  · exact Nat.le_trans (List.countP_le_length ..) (by simp)
  · intro i o hi; exact absurd hi (rep_false i)
  · refine ⟨fun _ => (0, undef), fun i o v d hi => absurd hi (rep_false i), hs.sel fun S w hs => ?_⟩
    have := (hA fun _ => (0, undef)).at
    rw [this, List.append_nil] at hs
    rw [selF_congr (g := fun t => (pros.map fun p => p.isNone).getD t false) (tok _) (tok fun _ => (0, undef)) 0 rfl (fun t ht => ?_) (fun _ _ => rfl)]
    · exact hs
    · rw [hlen] at ht
      rw [Nat.zero_add, List.getD_eq_getElem?_getD, List.getElem?_map, List.getElem?_eq_getElem ht]
      unfold av
      rw [List.getD_eq_getElem?_getD, List.getElem?_eq_getElem ht]
      simp only [Option.getD_some, Option.map_some]
      have hf : ∀ q, (Array.replicate ops.toArray.size false).getD q false = false := fun q => by
        rw [Array.getD_eq_getD_getElem?, Array.getElem?_replicate]; split <;> rfl
      rcases hcc : cons.getD t none with _ | q <;> rcases hpp : pros[t] with _ | p <;> simp only [hf] <;> rfl
theorem WC.ofWA {id : Nat} {Q : Exit → Act → World → Prop} {F : Fr} {A : List HP} (hmix : P.follows .mixedOrders = true) (h : WA P w0 S0 n ops Q F A) : WC P w0 S0 n (.region id ops.toArray true) Q F A :=
  ⟨fun a w ha hs => wp_region_any hmix (h.go a _ ha (hs.drew _))⟩
/-- Operations that differ in one place alone, where the step is done. -/
theorem wpAny_same {Q : Exit → Act → World → Prop} {ops' : List Oper} {i : Nat} (hl : ops'.length = ops.length) (hs : ∀ j, j ≠ i → ops'[j]? = ops[j]?) (hd : (ops'[i]?).bind (·.dst) = (ops[i]?).bind (·.dst)) :
    ∀ (fuel : Nat) (L : Array Bool) (a : Act) (w : World), L.getD i true = true → wpAny P .any ops'.toArray Q fuel L a w → wpAny P .any ops.toArray Q fuel L a w := by
  have hr : ∀ L : Array Bool, L.getD i true = true → Region.ready .any ops'.toArray L = Region.ready .any ops.toArray L := by
    intro L hL
    unfold Region.ready
    rw [List.size_toArray, List.size_toArray, hl]
    refine List.filter_congr fun j _ => ?_
    by_cases hj : j = i
    · subst hj; rw [hL]; rfl
    · rw [List.getElem?_toArray, List.getElem?_toArray, hs j hj]
  have hy : ∀ (t : Array Value) (j : Nat), yielded ops'.toArray t j = yielded ops.toArray t j := by
    intro t j
    unfold yielded
    rw [List.getElem?_toArray, List.getElem?_toArray]
    by_cases hj : j = i
    · subst hj; rw [hd]
    · rw [hs j hj]
  intro fuel
  induction fuel with
  | zero => intro L a w hL h; exact ⟨by rw [← hr L hL]; exact h.1, h.2⟩
  | succ fuel ih =>
    intro L a w hL h
    refine ⟨fun h0 => h.1 (by rw [hr L hL]; exact h0), fun j hj => ?_⟩
    rw [← hr L hL] at hj
    have hji : j ≠ i := by
      rintro rfl
      have := (_root_.Go.mem_ready.1 hj).1
      rw [hL] at this; cases this
    have h1 := h.2 j hj
    have h2 := wpOp_mono (fun a' w' h' => ih (L.setIfInBounds j true) a' w' (by rw [getD_set_ne true hji]; exact hL) h') h1
    unfold wpOp at h2 ⊢
    rw [List.getElem?_toArray] at h2 ⊢
    rw [hs j hji] at h2
    split
    · rename_i e; rw [e] at h2; exact h2
    · rename_i o e
      rw [e] at h2
      simp only [] at h2
      have hw : Region.wanted o (yielded ops'.toArray a.tmps) = Region.wanted o (yielded ops.toArray a.tmps) := by
        rw [show yielded ops'.toArray a.tmps = yielded ops.toArray a.tmps from funext fun j => hy _ j]
      rw [hw] at h2
      exact h2
/-- The first step reads a slot: what it reads can be told in its place. -/
theorem WA.moveFirst {Q : Exit → Act → World → Prop} {F : Fr} {A : List HP} (i : Nat) {t d : Nat} {T : TypeId} {pos : String} {af : Array Edge} {v : Value} (hop : ops[i]? = some ⟨some d, .move (.tmp t), T, pos, af, none⟩) (hv : F.get t = some v)
    (hns : Region.noSelect ops.toArray = true) (hf : Region.free .any ops.toArray (Array.replicate ops.toArray.size false) i = true) (hr : (Region.ready .any ops.toArray (Array.replicate ops.toArray.size false)).contains i = true)
    (hQ : ∀ c a w, Q (.panic c) (a.put (some d) v) w → Q (.panic c) a w) (hlt : Nat.blt i ops.length = true)
    (k : WA P w0 S0 n (ops.set i ⟨some d, .move (.const v), T, pos, af, none⟩) Q F A) : WA P w0 S0 n ops Q F A := by
  refine ⟨fun a w ha hs => ?_⟩
  have hlt : i < ops.length := by simpa using hlt
  have h1 := k.go a w ha hs
  simp only [List.size_toArray, List.length_set] at h1
  obtain ⟨m, hm⟩ : ∃ m, ops.length = m + 1 := ⟨ops.length - 1, by omega⟩
  simp only [List.size_toArray]
  rw [hm] at h1 ⊢
  have hri : i ∈ Region.ready .any ops.toArray (Array.replicate (m + 1) false) := by
    simp only [List.size_toArray, hm] at hr
    simpa using hr
  have hri' : i ∈ Region.ready .any (ops.set i ⟨some d, .move (.const v), T, pos, af, none⟩).toArray (Array.replicate (m + 1) false) := by
    obtain ⟨h2, o, h3, h4⟩ := _root_.Go.mem_ready.1 hri
    rw [List.getElem?_toArray, hop] at h3
    cases h3
    refine _root_.Go.mem_ready.2 ⟨h2, ⟨some d, .move (.const v), T, pos, af, none⟩, by rw [List.getElem?_toArray, List.getElem?_set_self hlt], h4⟩
  have h5 := h1.2 i hri'
  have hl1 : ((Array.replicate (m + 1) false).setIfInBounds i true).getD i true = true := by
    have : i < m + 1 := by omega
    simp [this]
  have h6 : wpAny P .any (ops.set i ⟨some d, .move (.const v), T, pos, af, none⟩).toArray Q m ((Array.replicate (m + 1) false).setIfInBounds i true) (a.put (some d) v) w := by
    unfold wpOp at h5
    rw [List.getElem?_toArray, List.getElem?_set_self hlt] at h5
    simp only [Region.wanted, ↓reduceIte, Oper.wp, execOp, Act.eval, Sem.run_bind, Sem.run_pure, Result.andThen, Oper.upon] at h5
    rcases h5 with h5 | h5
    · exact h5
    · exact absurd h5.1 (by
      intro h8
      simp [Oper.asks, execOp, Act.eval, go_sem] at h8
      rw [show Sem.events P (pure (Next.value v)) w #[] = #[] from rfl] at h8
      simp at h8)
  have h7 := wpAny_same (ops := ops) (ops' := ops.set i ⟨some d, .move (.const v), T, pos, af, none⟩) (by rw [List.length_set]) (fun j hj => List.getElem?_set_ne (Ne.symm hj)) (by rw [List.getElem?_set_self hlt, hop]; rfl) m _ _ w hl1 h6
  refine wpAny_take (v := v) (by rw [List.getElem?_toArray]; exact hop) hns (by rw [List.size_toArray, hm] at hf; exact hf) (by rw [List.size_toArray, hm] at hr; exact hr) hQ (.inl ⟨rfl, fun w => ?_⟩) h7
  simp [execOp, Act.eval, ha.get t v hv]
end
end Go.BK
namespace Go.Proofs.Ytknclcjmfgdphaa
open Go.RowKit Go.BK
def opA (k : Int) (t : Txt) : Op8 := ⟨1, ⟨k, t⟩, .slice none 0 0, []⟩
theorem opA_ok (k : Int) (t : Txt) (h : t.length ≤ 140737488355328) (w : World) (S : BSet) : (opA k t).Ok w S := ⟨Sees.nilRow, Nat.zero_le _, h⟩
def opK (k : Int) : Op8 := ⟨k, ⟨0, []⟩, .slice none 0 0, []⟩
theorem opK_ok (k : Int) (w : World) (S : BSet) : (opK k).Ok w S := ⟨Sees.nilRow, Nat.zero_le _, Nat.zero_le _⟩
def endsL (U T : Txt) (cv : Value) (kk part : Int) : List Op8 := [opA 1 U, opA 2 T, ⟨2, ⟨0, []⟩, cv, [⟨0, part⟩]⟩, opA kk T, opK 3, opA 2 [120], opK 3]
theorem ends_ops {w : World} {S : BSet} {cv : Value} {U T : Txt} {kk part : Int} (hc : Sees w S (.row 2 cv 1 [i64 0, i64 part])) (hU : U.length ≤ 140737488355328) (hT : T.length ≤ 140737488355328) : ∀ x ∈ endsL U T cv kk part, x.Ok w S := by
  intro x hx
  unfold endsL at hx
  rcases List.mem_cons.1 hx with rfl | hx
  · exact opA_ok _ _ hU _ _
  rcases List.mem_cons.1 hx with rfl | hx
  · exact opA_ok _ _ hT _ _
  rcases List.mem_cons.1 hx with rfl | hx
  · exact ⟨hc, Nat.le_of_ble_eq_true rfl, Nat.zero_le _⟩
  rcases List.mem_cons.1 hx with rfl | hx
  · exact opA_ok _ _ hT _ _
  rcases List.mem_cons.1 hx with rfl | hx
  · exact opK_ok _ _ _
  rcases List.mem_cons.1 hx with rfl | hx
  · exact opA_ok _ _ (by decide) _ _
  rcases List.mem_cons.1 hx with rfl | hx
  · exact opK_ok _ _ _
  · cases hx
set_option maxHeartbeats 4000000 in
set_option maxRecDepth 8000 in
theorem journalEnds_law (f g : Txt) (kd : Int) (w : World) (S : BSet) (hS : (sepL []).sat S w) (hf : f.length ≤ 140737488355328) (hg : g.length ≤ 140737488355328) :
    Tri Try.prog 6 #[str f, str g, i64 kd] w S fun u A => u = .bool true := by
  refine Tri.enter (l := [str f, str g, i64 kd]) Try.func6 rfl Try.ntmps6 rfl [(0, str f), (1, str g), (2, i64 kd)] (subA rfl) hS ?_
  repeat first
    | (apply WL.q; exact rfl; exact rfl; exact rfl; (first | (apply EvW.assign; exact rfl)))
    | refine WC.seq ?_ | refine WC.region ?_ | refine WL.nil ?_ | refine WE.next ?_
  try refine WL.wanted rfl rfl rfl ?_
  apply WL.callA ([])
  · exact rfl
  · exact rfl
  · exact fun w => Try.call9 _ w
  · (focus ((repeat constructor); done))
  · exact fun w1 S1 hS1 hs1 ho1 => lives8_spec w1 S1 hS1
  rintro _ _ ⟨rfl, rfl⟩
  first | refine WL.app4 ?_ | refine WL.app3 ?_ | refine WL.app2 ?_ | refine WL.app1 ?_ | refine WL.app0 ?_ | skip
  repeat first
    | (apply WL.q; exact rfl; exact rfl; exact rfl; (first | (apply EvW.notT; exact rfl)))
    | refine WC.seq ?_ | refine WL.nil ?_ | refine WE.next ?_ | refine WC.skip ?_ | refine WC.condF rfl ?_
  obtain ⟨nf, hnf⟩ : ∃ n : Nat, min (f.length : Int) 1000 = (n : Int) := ⟨min f.length 1000, by omega⟩
  obtain ⟨ng, hng⟩ : ∃ n : Nat, min (g.length : Int) 1000 = (n : Int) := ⟨min g.length 1000, by omega⟩
  repeat refine WC.seq ?_
  refine WC.keep (xs := []) (by repeat constructor) ?_
  refine WC.ofWA Try.mixed ?_
  refine WA.moveFirst 0 rfl rfl (by (first | decide +kernel | kernel_rfl | exact rfl)) (by (first | decide +kernel | kernel_rfl | exact rfl)) (by (first | decide +kernel | kernel_rfl | exact rfl)) (fun _ _ _ h => h) (by (first | decide +kernel | kernel_rfl | exact rfl)) ?_
  simp only [List.set_cons_zero, List.set_cons_succ]
  refine WA.moveFirst 1 rfl rfl (by (first | decide +kernel | kernel_rfl | exact rfl)) (by (first | decide +kernel | kernel_rfl | exact rfl)) (by (first | decide +kernel | kernel_rfl | exact rfl)) (fun _ _ _ h => h) (by (first | decide +kernel | kernel_rfl | exact rfl)) ?_
  simp only [List.set_cons_zero, List.set_cons_succ]
  refine WA.moveFirst 5 rfl rfl (by (first | decide +kernel | kernel_rfl | exact rfl)) (by (first | decide +kernel | kernel_rfl | exact rfl)) (by (first | decide +kernel | kernel_rfl | exact rfl)) (fun _ _ _ h => h) (by (first | decide +kernel | kernel_rfl | exact rfl)) ?_
  simp only [List.set_cons_zero, List.set_cons_succ]
  refine WA.moveFirst 6 rfl rfl (by (first | decide +kernel | kernel_rfl | exact rfl)) (by (first | decide +kernel | kernel_rfl | exact rfl)) (by (first | decide +kernel | kernel_rfl | exact rfl)) (fun _ _ _ h => h) (by (first | decide +kernel | kernel_rfl | exact rfl)) ?_
  simp only [List.set_cons_zero, List.set_cons_succ]
  apply WA.par _ (fun c : Ch => []) [] [] []
  · (focus ((repeat (first | exact Restr.nil | (apply Restr.keep; exact rfl; exact rfl) | (apply Restr.drop; exact rfl))); done))
  · intro c; exact (by repeat constructor)
  · exact rfl
  · (first | decide +kernel | kernel_rfl | exact rfl)
  · (first | decide +kernel | kernel_rfl | exact rfl)
  · intro c
    (apply Par.quiet _ []; exact rfl; (first | decide +kernel | kernel_rfl | exact rfl); exact rfl; intro R; refine ⟨_, (by repeat constructor), ?_⟩;
         (first | (apply EvW.move; exact rfl)))
    (apply Par.quiet _ []; exact rfl; (first | decide +kernel | kernel_rfl | exact rfl); exact rfl; intro R; refine ⟨_, (by repeat constructor), ?_⟩;
         (first | (apply EvW.move; exact rfl)))
    (apply Par.quiet _ []; exact rfl; (first | decide +kernel | kernel_rfl | exact rfl); exact rfl; intro R; refine ⟨_, (by repeat constructor), ?_⟩;
         (first | (apply EvW.lenS; exact rfl; exact UndC.eq)))
    (apply Par.quiet _ []; exact rfl; (first | decide +kernel | kernel_rfl | exact rfl); exact rfl; intro R; refine ⟨_, (by repeat constructor), ?_⟩;
         (first | (apply EvW.min2; exact rfl; exact rfl)))
    (apply Par.quiet _ []; exact rfl; (first | decide +kernel | kernel_rfl | exact rfl); exact rfl; intro R; refine ⟨_, (by repeat constructor), ?_⟩;
         (first | (apply EvW.sliceS_hi; exact rfl; exact UndC.eq; exact rfl; omega; omega)))
    (apply Par.quiet _ []; exact rfl; (first | decide +kernel | kernel_rfl | exact rfl); exact rfl; intro R; refine ⟨_, (by repeat constructor), ?_⟩;
         (first | (apply EvW.move; exact rfl)))
    (apply Par.quiet _ []; exact rfl; (first | decide +kernel | kernel_rfl | exact rfl); exact rfl; intro R; refine ⟨_, (by repeat constructor), ?_⟩;
         (first | (apply EvW.move; exact rfl)))
    (apply Par.quiet _ []; exact rfl; (first | decide +kernel | kernel_rfl | exact rfl); exact rfl; intro R; refine ⟨_, (by repeat constructor), ?_⟩;
         (first | (apply EvW.lenS; exact rfl; exact UndC.eq)))
    (apply Par.quiet _ []; exact rfl; (first | decide +kernel | kernel_rfl | exact rfl); exact rfl; intro R; refine ⟨_, (by repeat constructor), ?_⟩;
         (first | (apply EvW.min2; exact rfl; exact rfl)))
    (apply Par.quiet _ []; exact rfl; (first | decide +kernel | kernel_rfl | exact rfl); exact rfl; intro R; refine ⟨_, (by repeat constructor), ?_⟩;
         (first | (apply EvW.sliceS_hi; exact rfl; exact UndC.eq; exact rfl; omega; omega)))
    (apply Par.quiet _ []; exact rfl; (first | decide +kernel | kernel_rfl | exact rfl); exact rfl; intro R; refine ⟨_, (by repeat constructor), ?_⟩;
         (first | (apply EvW.assign; exact rfl)))
    (apply Par.quiet _ []; exact rfl; (first | decide +kernel | kernel_rfl | exact rfl); exact rfl; intro R; refine ⟨_, (by repeat constructor), ?_⟩;
         (first | (apply EvW.assign; exact rfl)))
    exact Par.nil
  · repeat (first | exact AllN.nil | (apply AllN.cons; (intro c x; (repeat (first | exact IndA.nil | (apply IndA.skip; (first | decide +kernel | kernel_rfl | exact rfl)) | apply IndA.same))))) 
  · repeat (first | exact AllN.nil | (apply AllN.cons; (intro c x; (repeat (first | exact IndT.nil | (apply IndT.skip; (first | decide +kernel | kernel_rfl | exact rfl)) | apply IndT.same))))) 
  · exact fun _ => rfl
  intro c
  refine ⟨_, (by repeat constructor), ?_⟩
  apply WE.writ
  · (focus ((repeat (first | exact Writ.nil | apply Writ.some | apply Writ.none)); done))
  rw [hnf, hng]
  have hU : ((f.take ((nf : Nat) : Int).toNat).length : Int) ≤ 1000 := by rw [List.length_take]; omega
  have hT : ((g.take ((ng : Nat) : Int).toNat).length : Int) ≤ 1000 := by rw [List.length_take]; omega
  generalize f.take ((nf : Nat) : Int).toNat = U at hU
  generalize g.take ((ng : Nat) : Int).toNat = T at hT
  clear hnf hng
  repeat first
    | (apply WL.q; exact rfl; exact rfl; exact rfl; (first | (apply EvW.assign; exact rfl)))
    | refine WC.seq ?_ | refine WC.region ?_ | refine WL.nil ?_ | refine WE.next ?_ | refine WC.block ?_
  refine WC.loopK (σ := Nat) [0, 1, 2] (fun s => [(7, i64 s)]) (fun s => []) (fun s => s ≤ T.length + 20) (fun s => T.length + 20 - s) 0 (by (focus ((repeat (first | exact Pick.nil | (apply Pick.cons; exact rfl))); done))) (by (focus ((repeat (first | exact trivial | (refine ⟨rfl, ?_⟩))); done))) (fun _ h => h.keep (by repeat constructor)) (Nat.zero_le _) (fun s hs => ?_)
  obtain ⟨i, rfl⟩ : ∃ q, q = s := ⟨s, rfl⟩
  simp only [List.cons_append, List.nil_append] at hs ⊢
  by_cases hlt : (i : Int) < (T.length : Int) + 20
  · by_cases h1 : (i : Int) > 100
    · by_cases h2 : (i : Int) < (T.length : Int) - 10
      · repeat first
          | (apply WL.q; exact rfl; exact rfl; exact rfl; (first | (apply EvW.move; exact rfl) | (apply EvW.assign; exact rfl) | (apply EvW.lenS; exact rfl; exact UndC.eq) | (apply EvW.cmpT; exact rfl; exact rfl; exact rfl; omega) | (apply EvW.arN; exact rfl; exact rfl; exact rfl; refine i64_in ?_ ?_ <;> omega) | (apply EvW.pickT; exact rfl; exact rfl)))
          | refine WC.seq ?_ | refine WC.region ?_ | refine WL.nil ?_ | refine WE.next ?_ | refine WC.block ?_ | refine WC.skip ?_ | refine WC.exit ?_ | refine WE.pass ?_ | refine WE.hit ?_ | refine WC.condT rfl ?_ | refine WL.wanted rfl rfl rfl ?_
        exact WE.again (s := i) (i + 1) (by omega) (by (focus ((repeat (first | exact trivial | (refine ⟨rfl, ?_⟩))); done))) (fun _ h => (by (try simp only []); exact h.keep (by repeat constructor))) (by (try simp only []); omega)
      · repeat first
          | (apply WL.q; exact rfl; exact rfl; exact rfl; (first | (apply EvW.move; exact rfl) | (apply EvW.lenS; exact rfl; exact UndC.eq) | (apply EvW.cmpT; exact rfl; exact rfl; exact rfl; omega) | (apply EvW.cmpF; exact rfl; exact rfl; exact rfl; omega) | (apply EvW.arN; exact rfl; exact rfl; exact rfl; refine i64_in ?_ ?_ <;> omega) | (apply EvW.pickT; exact rfl; exact rfl) | (apply EvW.build; exact PlC.eq; exact ZvC.eq; exact rfl; exact rfl; (focus ((repeat (first | exact Fills.nil | (apply Fills.cons; exact rfl; (first | assumption | exact rfl); exact rfl) | exact SetMany.nil | apply SetMany.cons | apply SetMany.succ)); done)))))
          | refine WC.seq ?_ | refine WC.region ?_ | refine WL.nil ?_ | refine WE.next ?_ | refine WC.block ?_ | refine WC.skip ?_ | refine WC.condT rfl ?_ | refine WC.condF rfl ?_ | refine WL.wanted rfl rfl rfl ?_
        try refine WL.wanted rfl rfl rfl ?_
        (apply WL.buildSlice; exact rfl; exact UndC.eq; exact SzC.eq; exact ZvC.eq; exact rfl; exact rfl; exact rfl; ((focus ((repeat (first | exact Flat.nil | (apply Flat.one; (first | exact rfl | assumption)) | (apply Flat.cons; exact rfl; exact rfl))); done))); exact rfl; exact rfl; intro c1)
        refine WL.keep (xs := [.blk c1 #[i64 0, i64 i] 52]) (by repeat constructor) ?_
        repeat first
          | (apply WL.q; exact rfl; exact rfl; exact rfl; (first | (apply EvW.move; exact rfl) | (apply EvW.ar; exact rfl; exact rfl; exact rfl) | (apply EvW.build; exact PlC.eq; exact ZvC.eq; exact rfl; exact rfl; (focus ((repeat (first | exact Fills.nil | (apply Fills.cons; exact rfl; (first | assumption | exact rfl); exact rfl) | exact SetMany.nil | apply SetMany.cons | apply SetMany.succ)); done)))))
        generalize hkd : (IntKind.i64.wrap _ : Int) = kk
        try refine WL.wanted rfl rfl rfl ?_
        (apply WL.buildSlice; exact rfl; exact UndC.eq; exact SzC.eq; exact ZvC.eq; exact rfl; exact rfl; exact rfl; ((focus ((repeat (first | exact Flat.nil | (apply Flat.one; (first | exact rfl | assumption)) | (apply Flat.cons; exact rfl; exact rfl))); done))); exact rfl; exact rfl; intro c2)
        refine WL.keep (xs := [.blk c2 ((endsL U T (.slice (some ⟨c1, 0, none⟩) 1 1) kk i).flatMap op8C).toArray 50, .blk c1 #[i64 0, i64 i] 52]) (by repeat constructor) ?_
        repeat first
          | (apply WL.q; exact rfl; exact rfl; exact rfl; (first | (apply EvW.move; exact rfl) | (apply EvW.assign; exact rfl)))
          | refine WC.seq ?_ | refine WC.region ?_ | refine WL.nil ?_ | refine WE.next ?_
        try refine WL.wanted rfl rfl rfl ?_
        apply WL.callA ([])
        · exact rfl
        · exact rfl
        · exact fun w => Try.call16 _ w
        · (focus ((repeat constructor); done))
        · exact fun w1 S1 hS1 hs1 ho1 => play_spec (.slice (some ⟨c2, 0, none⟩) 7 7) (endsL U T (.slice (some ⟨c1, 0, none⟩) 1 1) kk i) w1 S1 hS1 ((ho1 _ _ .head).blkRow rfl (fun k u h => by simpa using h) (by simp [endsL])) (by simp [endsL]) (ends_ops ((ho1 _ _ (.tail .head)).blkRow rfl (fun k u h => by simpa using h) (by simp)) (by omega) (by omega))
        rintro _ _ ⟨rfl, rfl⟩
        first | refine WL.app4 ?_ | refine WL.app3 ?_ | refine WL.app2 ?_ | refine WL.app1 ?_ | refine WL.app0 ?_ | skip
        repeat first
          | (apply WL.q; exact rfl; exact rfl; exact rfl; (first | (apply EvW.move; exact rfl) | (apply EvW.assign; exact rfl) | (apply EvW.arN; exact rfl; exact rfl; exact rfl; refine i64_in ?_ ?_ <;> omega) | (apply EvW.notT; exact rfl)))
          | refine WC.region ?_ | refine WL.nil ?_ | refine WE.next ?_ | refine WC.skip ?_ | refine WE.out ?_ | refine WC.condF rfl ?_
        exact WE.again (s := i) (i + 1) (by omega) (by (focus ((repeat (first | exact trivial | (refine ⟨rfl, ?_⟩))); done))) (fun _ h => (by (try simp only []); exact h.keep (by repeat constructor))) (by (try simp only []); omega)
    · repeat first
        | (apply WL.q; exact rfl; exact rfl; exact rfl; (first | (apply EvW.move; exact rfl) | (apply EvW.lenS; exact rfl; exact UndC.eq) | (apply EvW.cmpT; exact rfl; exact rfl; exact rfl; omega) | (apply EvW.cmpF; exact rfl; exact rfl; exact rfl; omega) | (apply EvW.arN; exact rfl; exact rfl; exact rfl; refine i64_in ?_ ?_ <;> omega) | (apply EvW.pickF; exact rfl; exact rfl) | (apply EvW.build; exact PlC.eq; exact ZvC.eq; exact rfl; exact rfl; (focus ((repeat (first | exact Fills.nil | (apply Fills.cons; exact rfl; (first | assumption | exact rfl); exact rfl) | exact SetMany.nil | apply SetMany.cons | apply SetMany.succ)); done)))))
        | refine WC.seq ?_ | refine WC.region ?_ | refine WL.nil ?_ | refine WE.next ?_ | refine WC.block ?_ | refine WC.skip ?_ | refine WC.condT rfl ?_ | refine WC.condF rfl ?_ | refine WL.unwanted rfl rfl rfl rfl ?_
      try refine WL.wanted rfl rfl rfl ?_
      (apply WL.buildSlice; exact rfl; exact UndC.eq; exact SzC.eq; exact ZvC.eq; exact rfl; exact rfl; exact rfl; ((focus ((repeat (first | exact Flat.nil | (apply Flat.one; (first | exact rfl | assumption)) | (apply Flat.cons; exact rfl; exact rfl))); done))); exact rfl; exact rfl; intro c1)
      refine WL.keep (xs := [.blk c1 #[i64 0, i64 i] 52]) (by repeat constructor) ?_
      repeat first
        | (apply WL.q; exact rfl; exact rfl; exact rfl; (first | (apply EvW.move; exact rfl) | (apply EvW.ar; exact rfl; exact rfl; exact rfl) | (apply EvW.build; exact PlC.eq; exact ZvC.eq; exact rfl; exact rfl; (focus ((repeat (first | exact Fills.nil | (apply Fills.cons; exact rfl; (first | assumption | exact rfl); exact rfl) | exact SetMany.nil | apply SetMany.cons | apply SetMany.succ)); done)))))
      generalize hkd : (IntKind.i64.wrap _ : Int) = kk
      try refine WL.wanted rfl rfl rfl ?_
      (apply WL.buildSlice; exact rfl; exact UndC.eq; exact SzC.eq; exact ZvC.eq; exact rfl; exact rfl; exact rfl; ((focus ((repeat (first | exact Flat.nil | (apply Flat.one; (first | exact rfl | assumption)) | (apply Flat.cons; exact rfl; exact rfl))); done))); exact rfl; exact rfl; intro c2)
      refine WL.keep (xs := [.blk c2 ((endsL U T (.slice (some ⟨c1, 0, none⟩) 1 1) kk i).flatMap op8C).toArray 50, .blk c1 #[i64 0, i64 i] 52]) (by repeat constructor) ?_
      repeat first
        | (apply WL.q; exact rfl; exact rfl; exact rfl; (first | (apply EvW.move; exact rfl) | (apply EvW.assign; exact rfl)))
        | refine WC.seq ?_ | refine WC.region ?_ | refine WL.nil ?_ | refine WE.next ?_
      try refine WL.wanted rfl rfl rfl ?_
      apply WL.callA ([])
      · exact rfl
      · exact rfl
      · exact fun w => Try.call16 _ w
      · (focus ((repeat constructor); done))
      · exact fun w1 S1 hS1 hs1 ho1 => play_spec (.slice (some ⟨c2, 0, none⟩) 7 7) (endsL U T (.slice (some ⟨c1, 0, none⟩) 1 1) kk i) w1 S1 hS1 ((ho1 _ _ .head).blkRow rfl (fun k u h => by simpa using h) (by simp [endsL])) (by simp [endsL]) (ends_ops ((ho1 _ _ (.tail .head)).blkRow rfl (fun k u h => by simpa using h) (by simp)) (by omega) (by omega))
      rintro _ _ ⟨rfl, rfl⟩
      first | refine WL.app4 ?_ | refine WL.app3 ?_ | refine WL.app2 ?_ | refine WL.app1 ?_ | refine WL.app0 ?_ | skip
      repeat first
        | (apply WL.q; exact rfl; exact rfl; exact rfl; (first | (apply EvW.move; exact rfl) | (apply EvW.assign; exact rfl) | (apply EvW.arN; exact rfl; exact rfl; exact rfl; refine i64_in ?_ ?_ <;> omega) | (apply EvW.notT; exact rfl)))
        | refine WC.region ?_ | refine WL.nil ?_ | refine WE.next ?_ | refine WC.skip ?_ | refine WE.out ?_ | refine WC.condF rfl ?_
      exact WE.again (s := i) (i + 1) (by omega) (by (focus ((repeat (first | exact trivial | (refine ⟨rfl, ?_⟩))); done))) (fun _ h => (by (try simp only []); exact h.keep (by repeat constructor))) (by (try simp only []); omega)
  · repeat first
      | (apply WL.q; exact rfl; exact rfl; exact rfl; (first | (apply EvW.move; exact rfl) | (apply EvW.assign; exact rfl) | (apply EvW.lenS; exact rfl; exact UndC.eq) | (apply EvW.cmpF; exact rfl; exact rfl; exact rfl; omega) | (apply EvW.arN; exact rfl; exact rfl; exact rfl; refine i64_in ?_ ?_ <;> omega)))
      | refine WC.seq ?_ | refine WC.region ?_ | refine WL.nil ?_ | refine WE.next ?_ | refine WC.exit ?_ | refine WE.pass ?_ | refine WE.hit ?_ | refine WC.condF rfl ?_ | refine WC.ret ?_
    refine WE.ret1 rfl rfl ?_
    rfl
end Go.Proofs.Ytknclcjmfgdphaa
namespace Go.Proofs.Ytknclcjmfgdphaa
open Go.RowKit Go.BK
theorem Try.own : ownKnob Try.prog.godebug = none := by kernel_rfl
theorem Try.laidOut : laidOutB Try.prog = true := by kernel_rfl
end Go.Proofs.Ytknclcjmfgdphaa
namespace Go.Proofs.Ytknclcjmfgdphaa
open Go.ChangeShapes Go.WideShapes Go.ChangeAt Go.RowKit Go.BK
set_option maxRecDepth 100000 in
theorem journalEnds_lifted (os : Os) (started : os.Started) (H : Type) (enc : TypeId × Value → H) :
    ReturnsInHanded {} Try.checked os 6 .any (Rows.journalEndsSpec.pre6 enc Try.prog Try.f6 Rows.journalEndsRow.domain false) (Rows.journalEndsSpec.post enc Try.prog Try.f6 false true false false) := by
  refine law_lifted (C := Try.checked) (s := Rows.journalEndsSpec) (tb := 4) Try.own started (by kernel_rfl) Try.func6 rfl Try.underlying4 rfl Try.laidOut (by kernel_rfl) (by intro ds h; match ds, h with | [d1, d2, d3], _ => rfl)
    (ChangeSpec.witness6 (enc := enc) (C := Try.checked) false ⟨#[], #[.string ⟨#[]⟩, .string ⟨#[]⟩, .int .i64 0], []⟩ 8 (by kernel_rfl) (by kernel_rfl) (by kernel_rfl) (by kernel_rfl)) ?_
  intro W base args ds p hval hA0 hsz0
  have hA : DataW.TrodAll enc Try.prog W 0 (fun _ => true) true Try.f6.params.toList args.toList ds p := hA0
  have hsz : (DataW.weightsEach Try.prog Try.f6.params.toList ds).all (· ≤ reachBytes) = true := hsz0
  rw [Try.params6] at hA hsz hval
  clear hA0 hsz0
  obtain ⟨v0, v1, v2, d0, d1, d2, p0, p1, p2, rfl, rfl, rfl, h0, h1, h2⟩ := trodAll_three hA
  obtain ⟨f, rfl, hf⟩ := arg_str (j := 0) Try.underlying9 (hval 0 9 v0 rfl rfl) h0 hsz rfl rfl
  obtain ⟨g, rfl, hg⟩ := arg_str (j := 1) Try.underlying9 (hval 1 9 v1 rfl rfl) h1 hsz rfl rfl
  obtain ⟨y, rfl, rfl, rfl, wy⟩ := open_int Try.underlying3 (hval 2 3 v2 rfl rfl) h2
  exact (journalEnds_law f g y W _ (fun _ h => h) (by omega) (by omega)).law (fun _ _ h => h)
theorem journalEnds_holds : Rows.JournalEndsSaid :=
  OpenClaim.holds_of_wide 6 Try.f6 rfl rfl rfl rfl rfl rfl rfl ⟨rfl, rfl, rfl, rfl, rfl⟩ rfl rfl rfl rfl rfl (by kernel_rfl) Try.func6 (by kernel_rfl)
    (of_decide_eq_true (by kernel_rfl)) (by unfold Func.isWrapper; first | (rw [if_pos (by decide +kernel)]; kernel_rfl) | (rw [if_neg (by decide +kernel)]; exact ⟨rfl, rfl⟩))
    (fun os started H enc _ => journalEnds_lifted os started H enc)
end Go.Proofs.Ytknclcjmfgdphaa
