/- JournalLasts holds for every input of bulk at most 1048576: wherever the power goes, what is found are the last records up to the last one that was answered, or the one that was under way. Condition: the bulk of the second form. -/
import Derived.Test.YtknclcjmfgdphaaJnPdM5
namespace Go.Proofs.Ytknclcjmfgdphaa
open Go.RowKit Go.BK
theorem dn_le {mb K K' : Nat} {Q : List Rec → Prop} {L : List HP} {S : BSet} {w : World} (h : (sepL (dnH mb K Q :: L)).sat S w) (hk : K ≤ K') : (sepL (dnH mb K' Q :: L)).sat S w := by
  obtain ⟨x, ⟨hm, hJ⟩, hx⟩ := dn_open h
  exact dn_shut x ⟨hm.up hk, hJ⟩ hx
set_option maxHeartbeats 8000000 in
set_option maxRecDepth 8000 in
theorem step_up (b mb jb K : Nat) (av uv : Value) (all : List Rec) (o : Op8) (w : World) (S : BSet) (hS : (sepL [.blk b #[ptr mb 0, ptr jb 0, av, uv] 80, upH jb mb K false all, .own 34 3 (av) (numd 1 all).length ((numd 1 all).flatMap recC), .own 34 3 (uv) (numd (all.length + 1) []).length ((numd (all.length + 1) []).flatMap recC)]).sat S w) (ho : o.Ok w S) (hK : K ≤ 1099511600000) (hfew : all.length ≤ 4294967280) :
    Tri Try.prog 28 #[ptr b 0, .agg #[i64 o.k, i64 o.r.kind, str o.r.text, o.cv]] w S fun u A => StepR b (K + 4) (all.length + 1) u A := by
  refine Tri.enter (l := [ptr b 0, .agg #[i64 o.k, i64 o.r.kind, str o.r.text, o.cv]]) Try.func28 rfl Try.ntmps28 rfl [(0, ptr b 0), (1, .agg #[i64 o.k, i64 o.r.kind, str o.r.text, o.cv])] (subA rfl) hS ?_
  have hal := numd_len all 1
  have hcv := ho.cuts.row_one
  have htl := ho.tl
  (first | refine WL.slOwn (v := av) (by repeat constructor) ?_ | refine WC.slOwn (v := av) (by repeat constructor) ?_)
  intro hc_av ho_av
  (first | refine WL.slOwn (v := uv) (by repeat constructor) ?_ | refine WC.slOwn (v := uv) (by repeat constructor) ?_)
  intro hc_uv ho_uv
  by_cases hk1 : o.k = 1
  · repeat first
      | refine WC.seq ?_ | refine WC.region ?_
    try refine WL.wanted rfl rfl rfl ?_
    (apply WL.box; exact rfl; exact rfl; exact rfl; intro ob)
    repeat first
      | (apply WL.q; exact rfl; exact rfl; exact rfl; (first | (apply EvW.assign; exact rfl) | (apply EvW.fieldAddr0; exact rfl; exact FldC.eq) | (apply EvW.load; exact rfl; exact ScalC.eq; (focus ((repeat constructor); done)); exact rfl) | (apply EvW.cmpT; exact rfl; exact rfl; exact rfl; omega)))
      | refine WC.seq ?_ | refine WC.region ?_ | refine WL.nil ?_ | refine WE.next ?_ | refine WC.block ?_ | refine WC.condT rfl ?_
    repeat refine WC.seq ?_
    refine WC.keep (xs := [.blk ob #[i64 (o).k, i64 (o).r.kind, str (o).r.text, (o).cv] 50, .blk b #[ptr mb 0, ptr jb 0, av, uv] 80, .own 34 3 (av) (numd 1 all).length ((numd 1 all).flatMap recC), .own 34 3 (uv) (numd (all.length + 1) []).length ((numd (all.length + 1) []).flatMap recC), upH jb mb K false all]) (by repeat constructor) ?_
    apply WC.par _ (fun c : Ch => [.blk ob #[i64 (o).k, i64 (o).r.kind, str (o).r.text, (o).cv] 50, .blk b #[ptr mb 0, ptr jb 0, av, uv] 80, .own 34 3 (av) (numd 1 all).length ((numd 1 all).flatMap recC), .own 34 3 (uv) (numd (all.length + 1) []).length ((numd (all.length + 1) []).flatMap recC), upH jb mb K false all, apH jb mb (K + 3) false all o.r ((c 8).2)]) [none, none, none, none, none, some 8] [none, none, none, none, some 8, none] [(8, fun x => x.2)] Try.mixed
    · (focus ((repeat (first | exact Restr.nil | (apply Restr.keep; exact rfl; exact rfl) | (apply Restr.drop; exact rfl))); done))
    · intro c; exact (by repeat constructor)
    · exact rfl
    · decide +kernel
    · decide +kernel
    · intro c
      (apply Par.quiet _ [true, true, true, true, true, false]; exact rfl; decide +kernel; exact rfl; intro R; refine ⟨_, (by repeat constructor), ?_⟩;
           (first | (apply EvW.move; exact rfl)))
      (apply Par.quiet _ [true, true, true, true, true, false]; exact rfl; decide +kernel; exact rfl; intro R; refine ⟨_, (by repeat constructor), ?_⟩;
           (first | (apply EvW.nilPtr; exact rfl)))
      (apply Par.quiet _ [true, true, true, true, true, false]; exact rfl; decide +kernel; exact rfl; intro R; refine ⟨_, (by repeat constructor), ?_⟩;
           (first | (apply EvW.fieldAddr0; exact rfl; exact FldC.eq)))
      (apply Par.quiet _ [true, true, true, true, true, false]; exact rfl; decide +kernel; exact rfl; intro R; refine ⟨_, (by repeat constructor), ?_⟩;
           (first | (apply EvW.load; exact rfl; exact ScalC.eq; (focus ((repeat constructor); done)); exact rfl)))
      (apply Par.quiet _ [true, true, true, true, true, false]; exact rfl; decide +kernel; exact rfl; intro R; refine ⟨_, (by repeat constructor), ?_⟩;
           (first | (apply EvW.fieldAddr0; exact rfl; exact FldC.eq)))
      (apply Par.quiet _ [true, true, true, true, true, false]; exact rfl; decide +kernel; exact rfl; intro R; refine ⟨_, (by repeat constructor), ?_⟩;
           (first | (apply EvW.load; exact rfl; exact ScalC.eq; (focus ((repeat constructor); done)); exact rfl)))
      (apply Par.quiet _ [true, true, true, true, true, false]; exact rfl; decide +kernel; exact rfl; intro R; refine ⟨_, (by repeat constructor), ?_⟩;
           (first | (apply EvW.fieldAddr0; exact rfl; exact FldC.eq)))
      (apply Par.quiet _ [true, true, true, true, true, false]; exact rfl; decide +kernel; exact rfl; intro R; refine ⟨_, (by repeat constructor), ?_⟩;
           (first | (apply EvW.load; exact rfl; exact ScalC.eq; (focus ((repeat constructor); done)); exact rfl)))
      apply Par.new _ [false, false, false, false, true, false] [false, false, false, false, false, true] [true, true, true, true, false, false]
      · exact rfl
      · exact rfl
      · decide +kernel
      · intro R
        refine ⟨_, _, _, (by repeat constructor), (by repeat constructor), (fun x => (by repeat constructor)), ?_⟩
        apply NewW.callA ([upH jb mb K false all]) (fun x => [apH jb mb (K + 3) false all o.r x.2])
        · exact rfl
        · exact fun w => Try.call13 _ w
        · (focus ((repeat constructor); done))
        · exact fun w1 S1 hS1 hs1 ho1 => append8p jb mb K false all o.r w1 S1 hS1 (by omega) (by omega) htl
        · rintro _ _ ⟨e, rfl, rfl⟩; exact ⟨(0, i64 e), rfl, rfl⟩
        · exact fun x _ h => TakeT.st (by (focus ((repeat (first | exact TakeT.tail | apply TakeT.cons | exact Take.head | apply Take.tail | apply TakeT.drop)); done))) h
      (apply Par.quiet _ [true, true, true, true, false, true]; exact rfl; decide +kernel; exact rfl; intro R; refine ⟨_, (by repeat constructor), ?_⟩;
           (first | (apply EvW.assign; exact rfl)))
      exact Par.nil
    · repeat (first | exact AllN.nil | (apply AllN.cons; (intro c x; (repeat (first | exact IndA.nil | (apply IndA.skip; decide +kernel) | apply IndA.same))))) 
    · repeat (first | exact AllN.nil | (apply AllN.cons; (intro c x; (repeat (first | exact IndT.nil | (apply IndT.skip; decide +kernel) | apply IndT.same))))) 
    · exact fun _ => rfl
    intro c
    refine ⟨_, (by repeat constructor), ?_⟩
    apply WE.writ
    · (focus ((repeat (first | exact Writ.nil | apply Writ.some | apply Writ.none)); done))
    generalize (c 8).2 = ev
    repeat first
      | (apply WL.q; exact rfl; exact rfl; exact rfl; (first | (apply EvW.fieldAddr0; exact rfl; exact FldC.eq) | (apply EvW.load; exact rfl; exact ScalC.eq; (focus ((repeat constructor); done)); exact rfl)))
      | refine WC.seq ?_ | refine WC.region ?_ | refine WE.next ?_
    try refine WL.wanted rfl rfl rfl ?_
    apply WL.callA ([])
    · exact rfl
    · exact rfl
    · exact fun w => Try.call51 _ w
    · (focus ((repeat constructor); done))
    · exact fun w1 S1 hS1 hs1 ho1 => jright_spec o.r w1 S1 hS1 htl
    rintro _ _ ⟨rfl, rfl⟩
    first | refine WL.app4 ?_ | refine WL.app3 ?_ | refine WL.app2 ?_ | refine WL.app1 ?_ | refine WL.app0 ?_ | skip
    repeat first
      | (apply WL.q; exact rfl; exact rfl; exact rfl; (first | (apply EvW.assign; exact rfl)))
      | refine WC.seq ?_ | refine WL.nil ?_ | refine WE.next ?_
    repeat refine WC.seq ?_
    refine WC.keep (xs := [.blk ob #[i64 (o).k, i64 (o).r.kind, str (o).r.text, (o).cv] 50, .blk b #[ptr mb 0, ptr jb 0, av, uv] 80, .own 34 3 (av) (numd 1 all).length ((numd 1 all).flatMap recC), .own 34 3 (uv) (numd (all.length + 1) []).length ((numd (all.length + 1) []).flatMap recC), apH jb mb (K + 3) false all o.r ev]) (by repeat constructor) ?_
    apply WC.par _ (fun c : Ch => [.blk ob #[i64 (o).k, i64 (o).r.kind, str (o).r.text, (o).cv] 50, .blk b #[ptr mb 0, ptr jb 0, av, uv] 80, .own 34 3 (av) (numd 1 all).length ((numd 1 all).flatMap recC), .own 34 3 (uv) (numd (all.length + 1) []).length ((numd (all.length + 1) []).flatMap recC), apH jb mb (K + 3) false all o.r ev, .blk (c 11).1 #[i64 0, i64 0, str []] 34, .blk (c 11).1 #[i64 (((numd 1 all).length : Int) + 1), i64 (o.r).kind, str (o.r).text] 34]) [none, none, none, none, none, some 11, some 12] [none, none, none, none, none, some 12, none] [(11, fun x => ptr x.1 0)] Try.mixed
    · (focus ((repeat (first | exact Restr.nil | (apply Restr.keep; exact rfl; exact rfl) | (apply Restr.drop; exact rfl))); done))
    · intro c; exact (by repeat constructor)
    · exact rfl
    · decide +kernel
    · decide +kernel
    · intro c
      (apply Par.quiet _ [true, true, true, true, true, false, false]; exact rfl; decide +kernel; exact rfl; intro R; refine ⟨_, (by repeat constructor), ?_⟩;
           (first | (apply EvW.move; exact rfl)))
      (apply Par.quiet _ [true, true, true, true, true, false, false]; exact rfl; decide +kernel; exact rfl; intro R; refine ⟨_, (by repeat constructor), ?_⟩;
           (first | (apply EvW.nilPtr; exact rfl)))
      (apply Par.quiet _ [true, true, true, true, true, false, false]; exact rfl; decide +kernel; exact rfl; intro R; refine ⟨_, (by repeat constructor), ?_⟩;
           (first | (apply EvW.fieldAddr0; exact rfl; exact FldC.eq)))
      (apply Par.quiet _ [true, true, true, true, true, false, false]; exact rfl; decide +kernel; exact rfl; intro R; refine ⟨_, (by repeat constructor), ?_⟩;
           (first | (apply EvW.load; exact rfl; exact ScalC.eq; (focus ((repeat constructor); done)); exact rfl)))
      (apply Par.quiet _ [true, true, true, true, true, false, false]; exact rfl; decide +kernel; exact rfl; intro R; refine ⟨_, (by repeat constructor), ?_⟩;
           (first | (apply EvW.lenOwn; exact rfl; exact UndC.eq; (focus ((repeat constructor); done)))))
      (apply Par.quiet _ [true, true, true, true, true, false, false]; exact rfl; decide +kernel; exact rfl; intro R; refine ⟨_, (by repeat constructor), ?_⟩;
           (first | (apply EvW.arN; exact rfl; exact rfl; exact rfl; refine i64_in ?_ ?_ <;> omega)))
      (apply Par.quiet _ [true, true, true, true, true, false, false]; exact rfl; decide +kernel; exact rfl; intro R; refine ⟨_, (by repeat constructor), ?_⟩;
           (first | (apply EvW.fieldAddr0; exact rfl; exact FldC.eq)))
      (apply Par.quiet _ [true, true, true, true, true, false, false]; exact rfl; decide +kernel; exact rfl; intro R; refine ⟨_, (by repeat constructor), ?_⟩;
           (first | (apply EvW.load; exact rfl; exact ScalC.eq; (focus ((repeat constructor); done)); exact rfl)))
      (apply Par.quiet _ [true, true, true, true, true, false, false]; exact rfl; decide +kernel; exact rfl; intro R; refine ⟨_, (by repeat constructor), ?_⟩;
           (first | (apply EvW.fieldAddr0; exact rfl; exact FldC.eq)))
      (apply Par.quiet _ [true, true, true, true, true, false, false]; exact rfl; decide +kernel; exact rfl; intro R; refine ⟨_, (by repeat constructor), ?_⟩;
           (first | (apply EvW.load; exact rfl; exact ScalC.eq; (focus ((repeat constructor); done)); exact rfl)))
      (apply Par.quiet _ [true, true, true, true, true, false, false]; exact rfl; decide +kernel; exact rfl; intro R; refine ⟨_, (by repeat constructor), ?_⟩;
           (first | (apply EvW.build; exact PlC.eq; exact ZvC.eq; exact rfl; exact rfl; (focus ((repeat (first | exact Fills.nil | (apply Fills.cons; exact rfl; (first | assumption | exact rfl); exact rfl) | exact SetMany.nil | apply SetMany.cons | apply SetMany.succ)); done)))))
      (apply Par.new _ [false, false, false, false, false, false, false] [false, false, false, false, false, true, false] [true, true, true, true, true, false, false]; exact rfl; exact rfl; decide +kernel; intro R; refine ⟨_, _, _, (by repeat constructor), (by repeat constructor), (fun x => (by repeat constructor)), ?_⟩; (apply NewW.alloc; exact ZvC.eq; exact rfl; exact fun _ => rfl))
      (apply Par.eff _ [false, false, false, false, false, true, false] [false, false, false, false, false, false, true] [true, true, true, true, true, false, false]; exact rfl; exact rfl; decide +kernel; intro R; refine ⟨_, _, _, (by repeat constructor), (by repeat constructor), (by repeat constructor), ?_⟩; (apply EffW.store; exact rfl; exact rfl; (first | assumption | exact rfl); exact SzC.eq; (first | assumption | exact rfl); (focus ((repeat constructor); done))))
      exact Par.nil
    · repeat (first | exact AllN.nil | (apply AllN.cons; (intro c x; (repeat (first | exact IndA.nil | (apply IndA.skip; decide +kernel) | apply IndA.same))))) 
    · repeat (first | exact AllN.nil | (apply AllN.cons; (intro c x; (repeat (first | exact IndT.nil | (apply IndT.skip; decide +kernel) | apply IndT.same))))) 
    · exact fun _ => rfl
    intro c
    refine ⟨_, (by repeat constructor), ?_⟩
    apply WE.writ
    · (focus ((repeat (first | exact Writ.nil | apply Writ.some | apply Writ.none)); done))
    generalize (c 11).1 = b11
    refine WE.next ?_
    refine WC.openAp (by repeat constructor) (fun hr he => ?_) (fun hr he => ?_) (fun hr he => ?_)
    · subst he
      generalize rightF o.r = e at hr
      repeat first
        | (apply WL.q; exact rfl; exact rfl; exact rfl; (first | (apply EvW.move; exact rfl) | (apply EvW.assign; exact rfl) | (apply EvW.cmpT; exact rfl; exact rfl; exact rfl; omega)))
        | refine WC.seq ?_ | refine WC.region ?_ | refine WL.nil ?_ | refine WE.next ?_ | refine WC.condT rfl ?_ | refine WC.ret ?_ | refine WE.passRet ?_ | refine WE.outRet ?_
      refine WE.keep (xs := [upH jb mb (K + 3) false all, .blk b #[ptr mb 0, ptr jb 0, av, uv] 80, .own 34 3 (av) (numd 1 all).length ((numd 1 all).flatMap recC), .own 34 3 (uv) (numd (all.length + 1) []).length ((numd (all.length + 1) []).flatMap recC)]) (by repeat constructor) ?_
      refine WE.stUp (K' := K + 4) (und := []) (by omega) .head ?_
      refine WE.keep (xs := [.blk b #[ptr mb 0, ptr jb 0, av, uv] 80, stH jb mb (K + 4) all [] false, .own 34 3 (av) (numd 1 all).length ((numd 1 all).flatMap recC), .own 34 3 (uv) (numd (all.length + 1) []).length ((numd (all.length + 1) []).flatMap recC)]) (by repeat constructor) ?_
      refine WE.ret1 rfl rfl ?_
      exact ⟨mb, jb, av, uv, all, [], false, rfl, rfl, by omega, by decide, fun _ => rfl⟩
    · subst he
      rw [hr]
      have hnum : numN (all ++ [o.r]) = (all.length : Int) + 1 + 1 := by unfold numN; rw [List.length_append]; rfl
      have hM : numd 1 (all ++ [o.r]) = numd 1 all ++ [⟨all.length + 1, o.r.kind, o.r.text⟩] := by rw [numd_append, Nat.add_comm]; rfl
      repeat first
        | (apply WL.q; exact rfl; exact rfl; exact rfl; (first | (apply EvW.move; exact rfl) | (apply EvW.cmpT; exact rfl; exact rfl; exact rfl; omega) | (apply EvW.cmpF; exact rfl; exact rfl; exact rfl; omega)))
        | refine WC.seq ?_ | refine WC.region ?_ | refine WL.nil ?_ | refine WE.next ?_ | refine WC.skip ?_ | refine WC.condT rfl ?_ | refine WC.condF rfl ?_
      repeat refine WC.seq ?_
      refine WC.keep (xs := [.blk b #[ptr mb 0, ptr jb 0, av, uv] 80, .own 34 3 (av) (numd 1 all).length ((numd 1 all).flatMap recC), .own 34 3 (uv) (numd (all.length + 1) []).length ((numd (all.length + 1) []).flatMap recC), .blk ob #[i64 (o).k, i64 (o).r.kind, str (o).r.text, (o).cv] 50, .blk b11 #[i64 (((numd 1 all).length : Int) + 1), i64 (o.r).kind, str (o.r).text] 34, upH jb mb (K + 3) false (all ++ [o.r])]) (by repeat constructor) ?_
      apply WC.par _ (fun c : Ch => [.blk b #[ptr mb 0, ptr jb 0, av, uv] 80, .blk b #[ptr mb 0, ptr jb 0, (c 9).2, uv] 80, .own 34 3 (av) (numd 1 all).length ((numd 1 all).flatMap recC), .own 34 3 (uv) (numd (all.length + 1) []).length ((numd (all.length + 1) []).flatMap recC), .blk ob #[i64 (o).k, i64 (o).r.kind, str (o).r.text, (o).cv] 50, .blk b11 #[i64 (((numd 1 all).length : Int) + 1), i64 (o.r).kind, str (o.r).text] 34, upH jb mb (K + 3) false (all ++ [o.r]), .own 34 3 (.slice (some ⟨(c 1).1, 0, none⟩) 0 0) 0 [], .own 34 3 ((c 6).2) (0 + (numd 1 all).length) ([] ++ (numd 1 all).flatMap recC), .blk (c 8).1 #[i64 (((numd 1 all).length : Int) + 1), i64 o.r.kind, str o.r.text] 34, .own 34 3 ((c 9).2) (0 + (numd 1 all).length + 1) ([] ++ (numd 1 all).flatMap recC ++ [i64 (((numd 1 all).length : Int) + 1), i64 o.r.kind, str o.r.text])]) [none, some 12, none, none, none, none, none, some 1, some 6, some 8, some 9] [some 12, none, none, none, none, none, none, some 6, some 9, none, none] [(1, fun x => .slice (some ⟨x.1, 0, none⟩) 0 0), (6, fun x => x.2), (8, fun x => .slice (some ⟨x.1, 0, none⟩) 1 1), (9, fun x => x.2)] Try.mixed
      · (focus ((repeat (first | exact Restr.nil | (apply Restr.keep; exact rfl; exact rfl) | (apply Restr.drop; exact rfl))); done))
      · intro c; exact (by repeat constructor)
      · exact rfl
      · decide +kernel
      · decide +kernel
      · intro c
        (apply Par.quiet _ [true, false, true, true, true, true, true, false, false, false, false]; exact rfl; decide +kernel; exact rfl; intro R; refine ⟨_, (by repeat constructor), ?_⟩;
             (first | (apply EvW.move; exact rfl)))
        apply Par.new _ [false, false, false, false, false, false, false, false, false, false, false] [false, false, false, false, false, false, false, true, false, false, false] [true, false, true, true, true, true, true, false, false, false, false]
        · exact rfl
        · exact rfl
        · decide +kernel
        · intro R
          refine ⟨_, _, _, (by repeat constructor), (by repeat constructor), (fun x => (by repeat constructor)), ?_⟩
          (refine NewW.conv8 ?_ (fun _ _ hs => St.zero8 hs); (apply NewW.buildSlice; exact UndC.eq; exact SzC.eq; exact ZvC.eq; exact rfl; exact rfl; exact rfl; exact Flat.nil; exact rfl; exact rfl; exact fun _ => rfl))
        (apply Par.quiet _ [true, false, true, true, true, true, true, false, false, false, false]; exact rfl; decide +kernel; exact rfl; intro R; refine ⟨_, (by repeat constructor), ?_⟩;
             (first | (apply EvW.move; exact rfl)))
        (apply Par.quiet _ [true, false, true, true, true, true, true, false, false, false, false]; exact rfl; decide +kernel; exact rfl; intro R; refine ⟨_, (by repeat constructor), ?_⟩;
             (first | (apply EvW.nilPtr; exact rfl)))
        (apply Par.quiet _ [true, false, true, true, true, true, true, false, false, false, false]; exact rfl; decide +kernel; exact rfl; intro R; refine ⟨_, (by repeat constructor), ?_⟩;
             (first | (apply EvW.fieldAddr0; exact rfl; exact FldC.eq)))
        (apply Par.quiet _ [true, false, true, true, true, true, true, false, false, false, false]; exact rfl; decide +kernel; exact rfl; intro R; refine ⟨_, (by repeat constructor), ?_⟩;
             (first | (apply EvW.load; exact rfl; exact ScalC.eq; (focus ((repeat constructor); done)); exact rfl)))
        apply Par.new _ [false, false, false, false, false, false, false, true, false, false, false] [false, false, false, false, false, false, false, false, true, false, false] [true, false, true, true, true, true, true, false, false, false, false]
        · exact rfl
        · exact rfl
        · decide +kernel
        · intro R
          refine ⟨_, _, _, (by repeat constructor), (by repeat constructor), (fun x => (by repeat constructor)), ?_⟩
          (apply NewW.append; exact rfl; exact rfl; exact UndC.eq; exact SzC.eq; exact ByC.eq; exact ZvC.eq; exact rfl; (first | exact notInt_sl UndC.eq | exact notInt_st UndC.eq); exact rfl; (focus ((repeat constructor); done)))
          · exact adds_own (by repeat constructor) (flat_recN _) (all_recN _)
          · (omega)
          · exact fun _ _ h => TakeT.st (by (focus ((repeat (first | exact TakeT.tail | apply TakeT.cons | exact Take.head | apply Take.tail | apply TakeT.drop)); done))) h
        (apply Par.quiet _ [true, false, true, true, true, true, true, false, false, false, false]; exact rfl; decide +kernel; exact rfl; intro R; refine ⟨_, (by repeat constructor), ?_⟩;
             (first | (apply EvW.loadAgg; exact rfl; exact AggC.eq; exact SzC.eq; (focus ((repeat constructor); done)); (focus ((repeat (first | exact SubL.nil | apply SubL.cons | apply SubL.succ)); done)))))
        (apply Par.new _ [false, false, false, false, false, false, false, false, false, false, false] [false, false, false, false, false, false, false, false, false, true, false] [true, false, true, true, true, true, true, false, false, false, false]; exact rfl; exact rfl; decide +kernel; intro R; refine ⟨_, _, _, (by repeat constructor), (by repeat constructor), (fun x => (by repeat constructor)), ?_⟩; (apply NewW.buildSlice; exact UndC.eq; exact SzC.eq; exact ZvC.eq; exact rfl; exact rfl; exact rfl; (focus ((repeat (first | exact Flat.nil | (apply Flat.one; (first | exact rfl | assumption)) | (apply Flat.cons; exact rfl; exact rfl))); done)); exact rfl; exact rfl; exact fun _ => rfl))
        apply Par.new _ [false, false, false, false, false, false, false, false, true, false, false] [false, false, false, false, false, false, false, false, false, false, true] [true, false, true, true, true, true, true, false, false, true, false]
        · exact rfl
        · exact rfl
        · decide +kernel
        · intro R
          refine ⟨_, _, _, (by repeat constructor), (by repeat constructor), (fun x => (by repeat constructor)), ?_⟩
          (apply NewW.append; exact rfl; exact rfl; exact UndC.eq; exact SzC.eq; exact ByC.eq; exact ZvC.eq; exact rfl; (first | exact notInt_sl UndC.eq | exact notInt_st UndC.eq); exact rfl; (focus ((repeat constructor); done)))
          · exact adds_blk (by repeat constructor) rfl rfl
          · (omega)
          · exact fun _ _ h => TakeT.st (by (focus ((repeat (first | exact TakeT.tail | apply TakeT.cons | exact Take.head | apply Take.tail | apply TakeT.drop)); done))) h
        (apply Par.quiet _ [true, false, true, true, true, true, true, false, false, true, true]; exact rfl; decide +kernel; exact rfl; intro R; refine ⟨_, (by repeat constructor), ?_⟩;
             (first | (apply EvW.nilPtr; exact rfl)))
        (apply Par.quiet _ [true, false, true, true, true, true, true, false, false, true, true]; exact rfl; decide +kernel; exact rfl; intro R; refine ⟨_, (by repeat constructor), ?_⟩;
             (first | (apply EvW.fieldAddr0; exact rfl; exact FldC.eq)))
        apply Par.eff _ [true, false, false, false, false, false, false, false, false, false, false] [false, true, false, false, false, false, false, false, false, false, false] [false, false, true, true, true, true, true, false, false, true, true]
        · exact rfl
        · exact rfl
        · decide +kernel
        · intro R
          refine ⟨_, _, _, (by repeat constructor), (by repeat constructor), (by repeat constructor), ?_⟩
          (apply EffW.storeSl; exact rfl; exact rfl; (focus ((repeat constructor); done)); exact SzC.eq; (focus ((repeat constructor); done)))
        exact Par.nil
      · repeat (first | exact AllN.nil | (apply AllN.cons; (intro c x; (repeat (first | exact IndA.nil | (apply IndA.skip; decide +kernel) | apply IndA.same))))) 
      · repeat (first | exact AllN.nil | (apply AllN.cons; (intro c x; (repeat (first | exact IndT.nil | (apply IndT.skip; decide +kernel) | apply IndT.same))))) 
      · exact fun _ => rfl
      intro c
      refine ⟨_, (by repeat constructor), ?_⟩
      apply WE.writ
      · (focus ((repeat (first | exact Writ.nil | apply Writ.some | apply Writ.none)); done))
      generalize (c 1).1 = b1
      generalize (c 8).1 = b8
      have eO : HP.own 34 3 (c 9).2 (0 + (numd 1 all).length + 1) ([] ++ (numd 1 all).flatMap recC ++ [i64 (((numd 1 all).length : Int) + 1), i64 o.r.kind, str o.r.text]) = .own 34 3 ((c 9).2) (numd 1 (all ++ [o.r])).length ((numd 1 (all ++ [o.r])).flatMap recC) := by
        rw [hM, List.length_append, List.flatMap_append, Nat.zero_add, hal]; rfl
      rw [eO]
      generalize (c 9).2 = av2
      repeat first
        | refine WC.seq ?_ | refine WE.next ?_
      repeat refine WC.seq ?_
      refine WC.keep (xs := [.blk b #[ptr mb 0, ptr jb 0, av2, uv] 80, .own 34 3 (av2) (numd 1 (all ++ [o.r])).length ((numd 1 (all ++ [o.r])).flatMap recC), .own 34 3 (av) (numd 1 all).length ((numd 1 all).flatMap recC), .own 34 3 (uv) (numd (all.length + 1) []).length ((numd (all.length + 1) []).flatMap recC), .blk ob #[i64 (o).k, i64 (o).r.kind, str (o).r.text, (o).cv] 50, .blk b11 #[i64 (((numd 1 all).length : Int) + 1), i64 (o.r).kind, str (o.r).text] 34, upH jb mb (K + 3) false (all ++ [o.r])]) (by repeat constructor) ?_
      apply WC.par _ (fun c : Ch => [.blk b #[ptr mb 0, ptr jb 0, av2, uv] 80, .own 34 3 (av2) (numd 1 (all ++ [o.r])).length ((numd 1 (all ++ [o.r])).flatMap recC), .own 34 3 (av) (numd 1 all).length ((numd 1 all).flatMap recC), .own 34 3 (uv) (numd (all.length + 1) []).length ((numd (all.length + 1) []).flatMap recC), .blk ob #[i64 (o).k, i64 (o).r.kind, str (o).r.text, (o).cv] 50, .blk b11 #[i64 (((numd 1 all).length : Int) + 1), i64 (o.r).kind, str (o.r).text] 34, upH jb mb (K + 3) false (all ++ [o.r]), upH jb mb (K + 3) false (all ++ [o.r]), upH jb mb (K + 3) false (all ++ [o.r])]) [none, none, none, none, none, none, none, some 6, some 12] [none, none, none, none, none, none, some 6, some 12, none] [] Try.mixed
      · (focus ((repeat (first | exact Restr.nil | (apply Restr.keep; exact rfl; exact rfl) | (apply Restr.drop; exact rfl))); done))
      · intro c; exact (by repeat constructor)
      · exact rfl
      · decide +kernel
      · decide +kernel
      · intro c
        (apply Par.quiet _ [true, true, true, true, true, true, true, false, false]; exact rfl; decide +kernel; exact rfl; intro R; refine ⟨_, (by repeat constructor), ?_⟩;
             (first | (apply EvW.move; exact rfl)))
        (apply Par.quiet _ [true, true, true, true, true, true, true, false, false]; exact rfl; decide +kernel; exact rfl; intro R; refine ⟨_, (by repeat constructor), ?_⟩;
             (first | (apply EvW.nilPtr; exact rfl)))
        (apply Par.quiet _ [true, true, true, true, true, true, true, false, false]; exact rfl; decide +kernel; exact rfl; intro R; refine ⟨_, (by repeat constructor), ?_⟩;
             (first | (apply EvW.fieldAddr0; exact rfl; exact FldC.eq)))
        (apply Par.quiet _ [true, true, true, true, true, true, true, false, false]; exact rfl; decide +kernel; exact rfl; intro R; refine ⟨_, (by repeat constructor), ?_⟩;
             (first | (apply EvW.load; exact rfl; exact ScalC.eq; (focus ((repeat constructor); done)); exact rfl)))
        (apply Par.quiet _ [true, true, true, true, true, true, true, false, false]; exact rfl; decide +kernel; exact rfl; intro R; refine ⟨_, (by repeat constructor), ?_⟩;
             (first | (apply EvW.nilPtr; exact rfl)))
        (apply Par.quiet _ [true, true, true, true, true, true, true, false, false]; exact rfl; decide +kernel; exact rfl; intro R; refine ⟨_, (by repeat constructor), ?_⟩;
             (first | (apply EvW.fieldAddr0; exact rfl; exact FldC.eq)))
        apply Par.eff _ [false, false, false, false, false, false, true, false, false] [false, false, false, false, false, false, false, true, false] [true, true, true, true, true, true, false, false, false]
        · exact rfl
        · exact rfl
        · decide +kernel
        · intro R
          refine ⟨_, _, _, (by repeat constructor), (by repeat constructor), (by repeat constructor), ?_⟩
          apply EffW.callA ([upH jb mb (K + 3) false (all ++ [o.r])])
          · exact rfl
          · exact fun w => Try.call18 _ w
          · (focus ((repeat constructor); done))
          · exact fun w1 S1 hS1 hs1 ho1 => down_up jb mb (K + 3) false (all ++ [o.r]) w1 S1 hS1
          · exact fun _ _ h => h
          · exact fun _ h => TakeT.st (by (focus ((repeat (first | exact TakeT.tail | apply TakeT.cons | exact Take.head | apply Take.tail | apply TakeT.drop)); done))) h
        (apply Par.quiet _ [true, true, true, true, true, true, false, true, false]; exact rfl; decide +kernel; exact rfl; intro R; refine ⟨_, (by repeat constructor), ?_⟩;
             (first | (apply EvW.move; exact rfl)))
        first
          | (apply Par.skip; exact rfl; decide +kernel; exact rfl)
          | (apply Par.quiet _ [true, true, true, true, true, true, false, true, false]; exact rfl; decide +kernel; exact rfl; intro R; refine ⟨_, (by repeat constructor), ?_⟩;
             (first | (apply EvW.move; exact rfl)))
        first
          | (apply Par.skip; exact rfl; decide +kernel; exact rfl)
          | (apply Par.quiet _ [true, true, true, true, true, true, false, true, false]; exact rfl; decide +kernel; exact rfl; intro R; refine ⟨_, (by repeat constructor), ?_⟩;
             (first | (apply EvW.nilPtr; exact rfl)))
        first
          | (apply Par.skip; exact rfl; decide +kernel; exact rfl)
          | (apply Par.quiet _ [true, true, true, true, true, true, false, true, false]; exact rfl; decide +kernel; exact rfl; intro R; refine ⟨_, (by repeat constructor), ?_⟩;
             (first | (apply EvW.fieldAddr0; exact rfl; exact FldC.eq)))
        first
          | (apply Par.skip; exact rfl; decide +kernel; exact rfl)
          | (apply Par.quiet _ [true, true, true, true, true, true, false, true, false]; exact rfl; decide +kernel; exact rfl; intro R; refine ⟨_, (by repeat constructor), ?_⟩;
             (first | (apply EvW.load; exact rfl; exact ScalC.eq; (focus ((repeat constructor); done)); exact rfl)))
        apply Par.eff _ [false, false, false, false, false, false, false, true, false] [false, false, false, false, false, false, false, false, true] [true, true, true, true, true, true, false, false, false]
        · exact rfl
        · exact rfl
        · decide +kernel
        · intro R
          refine ⟨_, _, _, (by repeat constructor), (by repeat constructor), (by repeat constructor), ?_⟩
          apply EffW.callA ([upH jb mb (K + 3) false (all ++ [o.r])])
          · exact rfl
          · exact fun w => Try.call12 _ w
          · (focus ((repeat constructor); done))
          · exact fun w1 S1 hS1 hs1 ho1 => (by have h := next_up jb mb (K + 3) false (all ++ [o.r]) w1 S1 hS1; rw [hnum] at h; exact h)
          · exact fun _ _ h => h
          · exact fun _ h => TakeT.st (by (focus ((repeat (first | exact TakeT.tail | apply TakeT.cons | exact Take.head | apply Take.tail | apply TakeT.drop)); done))) h
        first
          | (apply Par.skip; exact rfl; decide +kernel; exact rfl)
          | (apply Par.quiet _ [true, true, true, true, true, true, false, false, false]; exact rfl; decide +kernel; exact rfl; intro R; refine ⟨_, (by repeat constructor), ?_⟩;
             (first | (apply EvW.fieldAddr0; exact rfl; exact FldC.eq)))
        first
          | (apply Par.skip; exact rfl; decide +kernel; exact rfl)
          | (apply Par.quiet _ [true, true, true, true, true, true, false, false, false]; exact rfl; decide +kernel; exact rfl; intro R; refine ⟨_, (by repeat constructor), ?_⟩;
             (first | (apply EvW.load; exact rfl; exact ScalC.eq; (focus ((repeat constructor); done)); exact rfl)))
        first
          | (apply Par.skip; exact rfl; decide +kernel; exact rfl)
          | (apply Par.quiet _ [true, true, true, true, true, true, false, false, false]; exact rfl; decide +kernel; exact rfl; intro R; refine ⟨_, (by repeat constructor), ?_⟩;
             (first | (apply EvW.arN; exact rfl; exact rfl; exact rfl; refine i64_in ?_ ?_ <;> omega)))
        first
          | (apply Par.skip; exact rfl; decide +kernel; exact rfl)
          | (apply Par.quiet _ [true, true, true, true, true, true, false, false, true]; exact rfl; decide +kernel; exact rfl; intro R; refine ⟨_, (by repeat constructor), ?_⟩;
             (first | (apply EvW.cmpT; exact rfl; exact rfl; exact rfl; omega)))
        (apply Par.quiet _ [true, true, true, true, true, true, false, false, true]; exact rfl; decide +kernel; exact rfl; intro R; refine ⟨_, (by repeat constructor), ?_⟩;
             (first | (apply EvW.pickF; exact rfl; exact rfl)))
        (apply Par.quiet _ [true, true, true, true, true, true, false, false, true]; exact rfl; decide +kernel; exact rfl; intro R; refine ⟨_, (by repeat constructor), ?_⟩;
             (first | (apply EvW.assign; exact rfl)))
        exact Par.nil
      · repeat (first | exact AllN.nil | (apply AllN.cons; (intro c x; (repeat (first | exact IndA.nil | (apply IndA.skip; decide +kernel) | apply IndA.same))))) 
      · repeat (first | exact AllN.nil | (apply AllN.cons; (intro c x; (repeat (first | exact IndT.nil | (apply IndT.skip; decide +kernel) | apply IndT.same))))) 
      · exact fun _ => rfl
      intro c
      refine ⟨_, (by repeat constructor), ?_⟩
      apply WE.writ
      · (focus ((repeat (first | exact Writ.nil | apply Writ.some | apply Writ.none)); done))
      repeat first
        | refine WE.next ?_ | refine WC.ret ?_ | refine WE.passRet ?_ | refine WE.outRet ?_
      refine WE.keep (xs := [upH jb mb (K + 3) false (all ++ [o.r]), .blk b #[ptr mb 0, ptr jb 0, av2, uv] 80, .own 34 3 (av2) (numd 1 (all ++ [o.r])).length ((numd 1 (all ++ [o.r])).flatMap recC), .own 34 3 (uv) (numd (all.length + 1) []).length ((numd (all.length + 1) []).flatMap recC)]) (by repeat constructor) ?_
      refine WE.stUp (K' := K + 4) (und := []) (by omega) .head ?_
      refine WE.keep (xs := [.blk b #[ptr mb 0, ptr jb 0, av2, uv] 80, stH jb mb (K + 4) (all ++ [o.r]) [] false, .own 34 3 (av2) (numd 1 (all ++ [o.r])).length ((numd 1 (all ++ [o.r])).flatMap recC), .own 34 3 (uv) (numd ((all ++ [o.r]).length + 1) []).length ((numd ((all ++ [o.r]).length + 1) []).flatMap recC)]) (by repeat constructor) ?_
      refine WE.ret1 rfl rfl ?_
      exact ⟨mb, jb, av2, uv, all ++ [o.r], [], false, rfl, rfl, by (rw [List.length_append]; exact Nat.le_refl _), by decide, fun _ => rfl⟩
    · subst he
      rw [hr]
      repeat first
        | (apply WL.q; exact rfl; exact rfl; exact rfl; (first | (apply EvW.move; exact rfl) | (apply EvW.cmpF; exact rfl; exact rfl; exact rfl; omega) | (apply EvW.loadAgg; exact rfl; exact AggC.eq; exact SzC.eq; (focus ((repeat constructor); done)); (focus ((repeat (first | exact SubL.nil | apply SubL.cons | apply SubL.succ)); done)))))
        | refine WC.seq ?_ | refine WC.region ?_ | refine WL.nil ?_ | refine WE.next ?_ | refine WC.skip ?_ | refine WC.condF rfl ?_
      try refine WL.wanted rfl rfl rfl ?_
      (apply WL.buildSlice; exact rfl; exact UndC.eq; exact SzC.eq; exact ZvC.eq; exact rfl; exact rfl; exact rfl; ((focus ((repeat (first | exact Flat.nil | (apply Flat.one; (first | exact rfl | assumption)) | (apply Flat.cons; exact rfl; exact rfl))); done))); exact rfl; exact rfl; intro c1)
      refine WL.toOwn (bl := c1) 1 3 .head rfl ?_
      refine WL.ownEq (cs' := (numd (all.length + 1) [o.r]).flatMap recC) (len' := (numd (all.length + 1) [o.r]).length) .head rfl (by rw [hal]; rfl) ?_
      repeat first
        | (apply WL.q; exact rfl; exact rfl; exact rfl; (first | (apply EvW.move; exact rfl) | (apply EvW.nilPtr; exact rfl) | (apply EvW.fieldAddr0; exact rfl; exact FldC.eq) | (apply EvW.load; exact rfl; exact ScalC.eq; (focus ((repeat constructor); done)); exact rfl) | (apply EvW.cmpT; exact rfl; exact rfl; exact rfl; omega)))
        | refine WC.seq ?_ | refine WC.region ?_ | refine WL.nil ?_ | refine WE.next ?_ | refine WL.wanted rfl rfl rfl ?_ | (apply WL.store; exact rfl; exact rfl; (first | assumption | exact rfl); exact SzC.eq; (first | assumption | exact rfl); (focus ((repeat constructor); done)))
      try refine WL.wanted rfl rfl rfl ?_
      apply WL.callA ([dnH mb (K + 3) (fun x => x = all ∨ x = all ++ [o.r])])
      · exact rfl
      · exact rfl
      · exact fun w => Try.call18 _ w
      · (focus ((repeat constructor); done))
      · exact fun w1 S1 hS1 hs1 ho1 => down_dn mb (K + 3) (fun x => x = all ∨ x = all ++ [o.r]) w1 S1 hS1
      rintro _ _ ⟨rfl, rfl⟩
      first | refine WL.app4 ?_ | refine WL.app3 ?_ | refine WL.app2 ?_ | refine WL.app1 ?_ | refine WL.app0 ?_ | skip
      repeat first
        | (apply WL.q; exact rfl; exact rfl; exact rfl; (first | (apply EvW.move; exact rfl) | (apply EvW.nilPtr; exact rfl) | (apply EvW.fieldAddr0; exact rfl; exact FldC.eq) | (apply EvW.load; exact rfl; exact ScalC.eq; (focus ((repeat constructor); done)); exact rfl) | (apply EvW.pickT; exact rfl; exact rfl)))
        | refine WL.wanted rfl rfl rfl ?_
      try refine WL.wanted rfl rfl rfl ?_
      apply WL.callA ([jdH jb mb])
      · exact rfl
      · exact rfl
      · exact fun w => Try.call23 _ w
      · (focus ((repeat constructor); done))
      · exact fun w1 S1 hS1 hs1 ho1 => jdead_dn jb mb w1 S1 hS1
      rintro _ _ ⟨rfl, rfl⟩
      first | refine WL.app4 ?_ | refine WL.app3 ?_ | refine WL.app2 ?_ | refine WL.app1 ?_ | refine WL.app0 ?_ | skip
      repeat first
        | (apply WL.q; exact rfl; exact rfl; exact rfl; (first | (apply EvW.assign; exact rfl) | (apply EvW.pickT; exact rfl; exact rfl)))
        | refine WL.nil ?_ | refine WE.next ?_ | refine WC.ret ?_ | refine WE.passRet ?_ | refine WE.outRet ?_
      refine WE.conv (A' := [stH jb mb (K + 4) all [o.r] true, .blk b #[ptr mb 0, ptr jb 0, av, .slice (some ⟨c1, 0, none⟩) 1 1] 80, .own 34 3 (av) (numd 1 all).length ((numd 1 all).flatMap recC), .own 34 3 (.slice (some ⟨c1, 0, none⟩) 1 1) (numd (all.length + 1) [o.r]).length ((numd (all.length + 1) [o.r]).flatMap recC)]) (fun _ hs => ?_) ?_
      · have h2 : St w S [dnH mb (K + 3) (fun x => x = all ∨ x = all ++ [o.r]), .blk b #[ptr mb 0, ptr jb 0, av, .slice (some ⟨c1, 0, none⟩) 1 1] 80, .own 34 3 (av) (numd 1 all).length ((numd 1 all).flatMap recC), .own 34 3 (.slice (some ⟨c1, 0, none⟩) 1 1) (numd (all.length + 1) [o.r]).length ((numd (all.length + 1) [o.r]).flatMap recC)] _ := hs.keep (by repeat constructor)
        exact h2.mono fun S w h => dn_le h (by omega)
      refine WE.keep (xs := [.blk b #[ptr mb 0, ptr jb 0, av, .slice (some ⟨c1, 0, none⟩) 1 1] 80, stH jb mb (K + 4) all [o.r] true, .own 34 3 (av) (numd 1 all).length ((numd 1 all).flatMap recC), .own 34 3 (.slice (some ⟨c1, 0, none⟩) 1 1) (numd (all.length + 1) [o.r]).length ((numd (all.length + 1) [o.r]).flatMap recC)]) (by repeat constructor) ?_
      refine WE.ret1 rfl rfl ?_
      exact ⟨mb, jb, av, .slice (some ⟨c1, 0, none⟩) 1 1, all, [o.r], true, rfl, rfl, by omega, Nat.le_refl 1, fun h => by cases h⟩
  by_cases hk2 : o.k = 2
  · repeat first
      | refine WC.seq ?_ | refine WC.region ?_
    try refine WL.wanted rfl rfl rfl ?_
    (apply WL.box; exact rfl; exact rfl; exact rfl; intro ob)
    repeat first
      | (apply WL.q; exact rfl; exact rfl; exact rfl; (first | (apply EvW.assign; exact rfl) | (apply EvW.fieldAddr0; exact rfl; exact FldC.eq) | (apply EvW.load; exact rfl; exact ScalC.eq; (focus ((repeat constructor); done)); exact rfl) | (apply EvW.cmpT; exact rfl; exact rfl; exact rfl; omega) | (apply EvW.cmpF; exact rfl; exact rfl; exact rfl; omega)))
      | refine WC.seq ?_ | refine WC.region ?_ | refine WL.nil ?_ | refine WE.next ?_ | refine WC.block ?_ | refine WC.condT rfl ?_ | refine WC.condF rfl ?_
    repeat refine WC.seq ?_
    refine WC.keep (xs := [.blk ob #[i64 (o).k, i64 (o).r.kind, str (o).r.text, (o).cv] 50, .blk b #[ptr mb 0, ptr jb 0, av, uv] 80, .own 34 3 (av) (numd 1 all).length ((numd 1 all).flatMap recC), .own 34 3 (uv) (numd (all.length + 1) []).length ((numd (all.length + 1) []).flatMap recC), upH jb mb K false all]) (by repeat constructor) ?_
    apply WC.par _ (fun c : Ch => [.blk ob #[i64 (o).k, i64 (o).r.kind, str (o).r.text, (o).cv] 50, .blk b #[ptr mb 0, ptr jb 0, av, uv] 80, .own 34 3 (av) (numd 1 all).length ((numd 1 all).flatMap recC), .own 34 3 (uv) (numd (all.length + 1) []).length ((numd (all.length + 1) []).flatMap recC), upH jb mb K false all, upH jb mb K false all]) [none, none, none, none, none, some 8] [none, none, none, none, some 8, none] [] Try.mixed
    · (focus ((repeat (first | exact Restr.nil | (apply Restr.keep; exact rfl; exact rfl) | (apply Restr.drop; exact rfl))); done))
    · intro c; exact (by repeat constructor)
    · exact rfl
    · decide +kernel
    · decide +kernel
    · intro c
      (apply Par.quiet _ [true, true, true, true, true, false]; exact rfl; decide +kernel; exact rfl; intro R; refine ⟨_, (by repeat constructor), ?_⟩;
           (first | (apply EvW.move; exact rfl)))
      (apply Par.quiet _ [true, true, true, true, true, false]; exact rfl; decide +kernel; exact rfl; intro R; refine ⟨_, (by repeat constructor), ?_⟩;
           (first | (apply EvW.nilPtr; exact rfl)))
      (apply Par.quiet _ [true, true, true, true, true, false]; exact rfl; decide +kernel; exact rfl; intro R; refine ⟨_, (by repeat constructor), ?_⟩;
           (first | (apply EvW.fieldAddr0; exact rfl; exact FldC.eq)))
      (apply Par.quiet _ [true, true, true, true, true, false]; exact rfl; decide +kernel; exact rfl; intro R; refine ⟨_, (by repeat constructor), ?_⟩;
           (first | (apply EvW.load; exact rfl; exact ScalC.eq; (focus ((repeat constructor); done)); exact rfl)))
      (apply Par.quiet _ [true, true, true, true, true, false]; exact rfl; decide +kernel; exact rfl; intro R; refine ⟨_, (by repeat constructor), ?_⟩;
           (first | (apply EvW.nilPtr; exact rfl)))
      (apply Par.quiet _ [true, true, true, true, true, false]; exact rfl; decide +kernel; exact rfl; intro R; refine ⟨_, (by repeat constructor), ?_⟩;
           (first | (apply EvW.fieldAddr0; exact rfl; exact FldC.eq)))
      (apply Par.quiet _ [true, true, true, true, true, false]; exact rfl; decide +kernel; exact rfl; intro R; refine ⟨_, (by repeat constructor), ?_⟩;
           (first | (apply EvW.fieldAddr0; exact rfl; exact FldC.eq)))
      (apply Par.quiet _ [true, true, true, true, true, false]; exact rfl; decide +kernel; exact rfl; intro R; refine ⟨_, (by repeat constructor), ?_⟩;
           (first | (apply EvW.load; exact rfl; exact ScalC.eq; (focus ((repeat constructor); done)); exact rfl)))
      apply Par.eff _ [false, false, false, false, true, false] [false, false, false, false, false, true] [true, true, true, true, false, false]
      · exact rfl
      · exact rfl
      · decide +kernel
      · intro R
        refine ⟨_, _, _, (by repeat constructor), (by repeat constructor), (by repeat constructor), ?_⟩
        apply EffW.callA ([upH jb mb K false all])
        · exact rfl
        · exact fun w => Try.call17 _ w
        · (focus ((repeat constructor); done))
        · exact fun w1 S1 hS1 hs1 ho1 => arm_up jb mb K false all o.cv o.cs false w1 S1 hS1 (hs1 _ ho.cuts) ho.cl (fun h => by cases h)
        · exact fun _ _ h => h
        · exact fun _ h => TakeT.st (by (focus ((repeat (first | exact TakeT.tail | apply TakeT.cons | exact Take.head | apply Take.tail | apply TakeT.drop)); done))) h
      exact Par.nil
    · repeat (first | exact AllN.nil | (apply AllN.cons; (intro c x; (repeat (first | exact IndA.nil | (apply IndA.skip; decide +kernel) | apply IndA.same))))) 
    · repeat (first | exact AllN.nil | (apply AllN.cons; (intro c x; (repeat (first | exact IndT.nil | (apply IndT.skip; decide +kernel) | apply IndT.same))))) 
    · exact fun _ => rfl
    intro c
    refine ⟨_, (by repeat constructor), ?_⟩
    apply WE.writ
    · (focus ((repeat (first | exact Writ.nil | apply Writ.some | apply Writ.none)); done))
    repeat first
      | (apply WL.q; exact rfl; exact rfl; exact rfl; (first | (apply EvW.assign; exact rfl)))
      | refine WC.seq ?_ | refine WC.region ?_ | refine WL.nil ?_ | refine WE.next ?_ | refine WE.out ?_ | refine WC.ret ?_
    refine WE.keep (xs := [upH jb mb K false all, .blk b #[ptr mb 0, ptr jb 0, av, uv] 80, .own 34 3 (av) (numd 1 all).length ((numd 1 all).flatMap recC), .own 34 3 (uv) (numd (all.length + 1) []).length ((numd (all.length + 1) []).flatMap recC)]) (by repeat constructor) ?_
    refine WE.stUp (K' := K + 4) (und := []) (by omega) .head ?_
    refine WE.keep (xs := [.blk b #[ptr mb 0, ptr jb 0, av, uv] 80, stH jb mb (K + 4) all [] false, .own 34 3 (av) (numd 1 all).length ((numd 1 all).flatMap recC), .own 34 3 (uv) (numd (all.length + 1) []).length ((numd (all.length + 1) []).flatMap recC)]) (by repeat constructor) ?_
    refine WE.ret1 rfl rfl ?_
    exact ⟨mb, jb, av, uv, all, [], false, rfl, rfl, by omega, by decide, fun _ => rfl⟩
  have h1 : all.length ≤ all.length := Nat.le_refl _
  have h2 : all.length ≤ (all ++ []).length := by rw [List.append_nil]; exact Nat.le_refl _
  have h3 : (all ++ []).take all.length = all := by rw [List.append_nil, List.take_length]
  have h4 : (all ++ ([] : List Rec)).length ≤ 4294967290 := by rw [List.append_nil]; omega
  by_cases hk3 : o.k = 3
  · repeat first
      | refine WC.seq ?_ | refine WC.region ?_
    try refine WL.wanted rfl rfl rfl ?_
    (apply WL.box; exact rfl; exact rfl; exact rfl; intro ob)
    repeat first
      | (apply WL.q; exact rfl; exact rfl; exact rfl; (first | (apply EvW.move; exact rfl) | (apply EvW.assign; exact rfl) | (apply EvW.nilPtr; exact rfl) | (apply EvW.fieldAddr0; exact rfl; exact FldC.eq) | (apply EvW.load; exact rfl; exact ScalC.eq; (focus ((repeat constructor); done)); exact rfl) | (apply EvW.cmpT; exact rfl; exact rfl; exact rfl; omega) | (apply EvW.cmpF; exact rfl; exact rfl; exact rfl; omega)))
      | refine WC.seq ?_ | refine WC.region ?_ | refine WL.nil ?_ | refine WE.next ?_ | refine WC.block ?_ | refine WC.condT rfl ?_ | refine WC.condF rfl ?_
    try refine WL.wanted rfl rfl rfl ?_
    apply WL.callA ([upH jb mb K false all])
    · exact rfl
    · exact rfl
    · exact fun w => Try.call14 _ w
    · (focus ((repeat constructor); done))
    · exact fun w1 S1 hS1 hs1 ho1 => again_up jb mb K false all w1 S1 hS1
    rintro _ _ ⟨q, rfl, rfl⟩
    first | refine WL.app4 ?_ | refine WL.app3 ?_ | refine WL.app2 ?_ | refine WL.app1 ?_ | refine WL.app0 ?_ | skip
    repeat first
      | (apply WL.q; exact rfl; exact rfl; exact rfl; (first | (apply EvW.move; exact rfl) | (apply EvW.nilPtr; exact rfl) | (apply EvW.fieldAddr0; exact rfl; exact FldC.eq) | (apply EvW.load; exact rfl; exact ScalC.eq; (focus ((repeat constructor); done)); exact rfl) | (apply EvW.pneN; exact rfl; exact rfl; exact UndC.eq)))
      | refine WC.seq ?_ | refine WC.region ?_ | refine WL.nil ?_ | refine WE.next ?_ | refine WL.wanted rfl rfl rfl ?_ | (apply WL.store; exact rfl; exact rfl; (first | assumption | exact rfl); exact SzC.eq; (first | assumption | exact rfl); (focus ((repeat constructor); done)))
    try refine WL.wanted rfl rfl rfl ?_
    apply WL.callA ([.blk b #[ptr q 0, ptr jb 0, av, uv] 80, rsH q K true all, .own 34 3 (av) (numd 1 all).length ((numd 1 all).flatMap recC), .own 34 3 (uv) (numd (all.length + 1) []).length ((numd (all.length + 1) []).flatMap recC)])
    · exact rfl
    · exact rfl
    · exact fun w => Try.call27 _ w
    · (focus ((repeat constructor); done))
    · exact fun w1 S1 hS1 hs1 ho1 => lopen_spec b q K true (ptr jb 0) av uv o.cv all [] all o.cs w1 S1 hS1 (hs1 _ ho.cuts) ho.cl h1 h2 h3 h4 (by omega)
    rintro _ _ ⟨mb2, jb2, av2, rfl, rfl⟩
    first | refine WL.app4 ?_ | refine WL.app3 ?_ | refine WL.app2 ?_ | refine WL.app1 ?_ | refine WL.app0 ?_ | skip
    repeat first
      | (apply WL.q; exact rfl; exact rfl; exact rfl; (first | (apply EvW.assign; exact rfl) | (apply EvW.pickT; exact rfl; exact rfl)))
      | refine WL.nil ?_ | refine WE.next ?_ | refine WC.ret ?_ | refine WE.passRet ?_ | refine WE.outRet ?_
    refine WE.keep (xs := [upH jb2 mb2 (K + 4) true all, .blk b #[ptr mb2 0, ptr jb2 0, av2, .slice none 0 0] 80, .own 34 3 (av2) (numd 1 all).length ((numd 1 all).flatMap recC)]) (by repeat constructor) ?_
    refine WE.stUp (K' := K + 4) (und := []) (Nat.le_refl _) .head ?_
    refine WE.conv (fun _ hs => hs.ownNil (e := 34) (sz := 3)) ?_
    refine WE.keep (xs := [.blk b #[ptr mb2 0, ptr jb2 0, av2, .slice none 0 0] 80, stH jb2 mb2 (K + 4) all [] false, .own 34 3 (av2) (numd 1 all).length ((numd 1 all).flatMap recC), .own 34 3 (.slice none 0 0) (numd (all.length + 1) []).length ((numd (all.length + 1) []).flatMap recC)]) (by repeat constructor) ?_
    refine WE.ret1 rfl rfl ?_
    exact ⟨mb2, jb2, av2, .slice none 0 0, all, [], false, rfl, rfl, by omega, by decide, fun _ => rfl⟩
  by_cases hk4 : o.k = 4
  · repeat first
      | refine WC.seq ?_ | refine WC.region ?_
    try refine WL.wanted rfl rfl rfl ?_
    (apply WL.box; exact rfl; exact rfl; exact rfl; intro ob)
    repeat first
      | (apply WL.q; exact rfl; exact rfl; exact rfl; (first | (apply EvW.move; exact rfl) | (apply EvW.assign; exact rfl) | (apply EvW.nilPtr; exact rfl) | (apply EvW.fieldAddr0; exact rfl; exact FldC.eq) | (apply EvW.load; exact rfl; exact ScalC.eq; (focus ((repeat constructor); done)); exact rfl) | (apply EvW.cmpT; exact rfl; exact rfl; exact rfl; omega) | (apply EvW.cmpF; exact rfl; exact rfl; exact rfl; omega)))
      | refine WC.seq ?_ | refine WC.region ?_ | refine WL.nil ?_ | refine WE.next ?_ | refine WC.block ?_ | refine WC.condT rfl ?_ | refine WC.condF rfl ?_
    try refine WL.wanted rfl rfl rfl ?_
    apply WL.callA ([upH jb mb K false all])
    · exact rfl
    · exact rfl
    · exact fun w => Try.call17 _ w
    · (focus ((repeat constructor); done))
    · exact fun w1 S1 hS1 hs1 ho1 => arm_up jb mb K false all (.slice none 0 0) [] true w1 S1 hS1 Sees.nilRow (by decide) (fun _ => rfl)
    rintro _ _ ⟨rfl, rfl⟩
    first | refine WL.app4 ?_ | refine WL.app3 ?_ | refine WL.app2 ?_ | refine WL.app1 ?_ | refine WL.app0 ?_ | skip
    refine WL.conv (fun _ hs => St.rsUp (by repeat constructor) hs) ?_
    repeat first
      | (apply WL.q; exact rfl; exact rfl; exact rfl; (first | (apply EvW.move; exact rfl)))
      | refine WC.seq ?_ | refine WC.region ?_ | refine WL.nil ?_ | refine WE.next ?_
    try refine WL.wanted rfl rfl rfl ?_
    apply WL.callA ([.blk b #[ptr mb 0, ptr jb 0, av, uv] 80, rsH mb K true all, .own 34 3 (av) (numd 1 all).length ((numd 1 all).flatMap recC), .own 34 3 (uv) (numd (all.length + 1) []).length ((numd (all.length + 1) []).flatMap recC)])
    · exact rfl
    · exact rfl
    · exact fun w => Try.call27 _ w
    · (focus ((repeat constructor); done))
    · exact fun w1 S1 hS1 hs1 ho1 => lopen_spec b mb K true (ptr jb 0) av uv (.slice none 0 0) all [] all [] w1 S1 hS1 Sees.nilRow (by decide) h1 h2 h3 h4 (by omega)
    rintro _ _ ⟨mb2, jb2, av2, rfl, rfl⟩
    first | refine WL.app4 ?_ | refine WL.app3 ?_ | refine WL.app2 ?_ | refine WL.app1 ?_ | refine WL.app0 ?_ | skip
    repeat first
      | (apply WL.q; exact rfl; exact rfl; exact rfl; (first | (apply EvW.assign; exact rfl)))
      | refine WL.nil ?_ | refine WE.next ?_ | refine WC.ret ?_ | refine WE.passRet ?_ | refine WE.outRet ?_
    refine WE.keep (xs := [upH jb2 mb2 (K + 4) true all, .blk b #[ptr mb2 0, ptr jb2 0, av2, .slice none 0 0] 80, .own 34 3 (av2) (numd 1 all).length ((numd 1 all).flatMap recC)]) (by repeat constructor) ?_
    refine WE.stUp (K' := K + 4) (und := []) (Nat.le_refl _) .head ?_
    refine WE.conv (fun _ hs => hs.ownNil (e := 34) (sz := 3)) ?_
    refine WE.keep (xs := [.blk b #[ptr mb2 0, ptr jb2 0, av2, .slice none 0 0] 80, stH jb2 mb2 (K + 4) all [] false, .own 34 3 (av2) (numd 1 all).length ((numd 1 all).flatMap recC), .own 34 3 (.slice none 0 0) (numd (all.length + 1) []).length ((numd (all.length + 1) []).flatMap recC)]) (by repeat constructor) ?_
    refine WE.ret1 rfl rfl ?_
    exact ⟨mb2, jb2, av2, .slice none 0 0, all, [], false, rfl, rfl, by omega, by decide, fun _ => rfl⟩
  repeat first
    | refine WC.seq ?_ | refine WC.region ?_
  try refine WL.wanted rfl rfl rfl ?_
  (apply WL.box; exact rfl; exact rfl; exact rfl; intro ob)
  repeat first
    | (apply WL.q; exact rfl; exact rfl; exact rfl; (first | (apply EvW.assign; exact rfl) | (apply EvW.fieldAddr0; exact rfl; exact FldC.eq) | (apply EvW.load; exact rfl; exact ScalC.eq; (focus ((repeat constructor); done)); exact rfl) | (apply EvW.cmpF; exact rfl; exact rfl; exact rfl; omega)))
    | refine WC.seq ?_ | refine WC.region ?_ | refine WL.nil ?_ | refine WE.next ?_ | refine WC.block ?_ | refine WC.skip ?_ | refine WE.out ?_ | refine WC.condF rfl ?_ | refine WC.ret ?_
  refine WE.keep (xs := [upH jb mb K false all, .blk b #[ptr mb 0, ptr jb 0, av, uv] 80, .own 34 3 (av) (numd 1 all).length ((numd 1 all).flatMap recC), .own 34 3 (uv) (numd (all.length + 1) []).length ((numd (all.length + 1) []).flatMap recC)]) (by repeat constructor) ?_
  refine WE.stUp (K' := K + 4) (und := []) (by omega) .head ?_
  refine WE.keep (xs := [.blk b #[ptr mb 0, ptr jb 0, av, uv] 80, stH jb mb (K + 4) all [] false, .own 34 3 (av) (numd 1 all).length ((numd 1 all).flatMap recC), .own 34 3 (uv) (numd (all.length + 1) []).length ((numd (all.length + 1) []).flatMap recC)]) (by repeat constructor) ?_
  refine WE.ret1 rfl rfl ?_
  exact ⟨mb, jb, av, uv, all, [], false, rfl, rfl, by omega, by decide, fun _ => rfl⟩
end Go.Proofs.Ytknclcjmfgdphaa
namespace Go.Proofs.Ytknclcjmfgdphaa
open Go.RowKit Go.BK
set_option maxHeartbeats 4000000 in
set_option maxRecDepth 8000 in
theorem step_dn (b mb jb K : Nat) (av uv : Value) (all und : List Rec) (o : Op8) (w : World) (S : BSet) (hS : (sepL [.blk b #[ptr mb 0, ptr jb 0, av, uv] 80, dnH mb K (fun x => x = all ∨ x = all ++ und), .own 34 3 (av) (numd 1 all).length ((numd 1 all).flatMap recC), .own 34 3 (uv) (numd (all.length + 1) und).length ((numd (all.length + 1) und).flatMap recC)]).sat S w) (ho : o.Ok w S) (hK : K ≤ 1099511600000) (hfew : all.length ≤ 4294967280) (hun : und.length ≤ 1) :
    Tri Try.prog 28 #[ptr b 0, .agg #[i64 3, i64 o.r.kind, str o.r.text, o.cv]] w S fun u A => StepR b (K + 4) (all.length + 1) u A := by
  refine Tri.enter (l := [ptr b 0, .agg #[i64 3, i64 o.r.kind, str o.r.text, o.cv]]) Try.func28 rfl Try.ntmps28 rfl [(0, ptr b 0), (1, .agg #[i64 3, i64 o.r.kind, str o.r.text, o.cv])] (subA rfl) hS ?_
  have hcv := ho.cuts.row_one
  (first | refine WL.slOwn (v := av) (by repeat constructor) ?_ | refine WC.slOwn (v := av) (by repeat constructor) ?_)
  intro hc_av ho_av
  (first | refine WL.slOwn (v := uv) (by repeat constructor) ?_ | refine WC.slOwn (v := uv) (by repeat constructor) ?_)
  intro hc_uv ho_uv
  repeat first
    | refine WC.seq ?_ | refine WC.region ?_
  try refine WL.wanted rfl rfl rfl ?_
  (apply WL.box; exact rfl; exact rfl; exact rfl; intro ob)
  repeat first
    | (apply WL.q; exact rfl; exact rfl; exact rfl; (first | (apply EvW.move; exact rfl) | (apply EvW.assign; exact rfl) | (apply EvW.nilPtr; exact rfl) | (apply EvW.fieldAddr0; exact rfl; exact FldC.eq) | (apply EvW.load; exact rfl; exact ScalC.eq; (focus ((repeat constructor); done)); exact rfl) | (apply EvW.cmpT; exact rfl; exact rfl; exact rfl; omega) | (apply EvW.cmpF; exact rfl; exact rfl; exact rfl; omega)))
    | refine WC.seq ?_ | refine WC.region ?_ | refine WL.nil ?_ | refine WE.next ?_ | refine WC.block ?_ | refine WC.condT rfl ?_ | refine WC.condF rfl ?_
  try refine WL.wanted rfl rfl rfl ?_
  apply WL.callA ([dnH mb K (fun x => x = all ∨ x = all ++ und)])
  · exact rfl
  · exact rfl
  · exact fun w => Try.call14 _ w
  · (focus ((repeat constructor); done))
  · exact fun w1 S1 hS1 hs1 ho1 => again_dn mb K (fun x => x = all ∨ x = all ++ und) w1 S1 hS1
  rintro _ _ ⟨q, x, rfl, hq, rfl⟩
  first | refine WL.app4 ?_ | refine WL.app3 ?_ | refine WL.app2 ?_ | refine WL.app1 ?_ | refine WL.app0 ?_ | skip
  have hml : (all ++ und).length = all.length + und.length := List.length_append
  have h1 : all.length ≤ x.length := by
    rcases hq with h | h
    · rw [h]; exact Nat.le_refl _
    · rw [h, hml]; omega
  have h2 : x.length ≤ (all ++ und).length := by
    rcases hq with h | h
    · rw [h]; omega
    · rw [h]; exact Nat.le_refl _
  have h3 : (all ++ und).take x.length = x := by
    rcases hq with h | h
    · rw [h, List.take_left]
    · rw [h, List.take_length]
  repeat first
    | (apply WL.q; exact rfl; exact rfl; exact rfl; (first | (apply EvW.move; exact rfl) | (apply EvW.nilPtr; exact rfl) | (apply EvW.fieldAddr0; exact rfl; exact FldC.eq) | (apply EvW.load; exact rfl; exact ScalC.eq; (focus ((repeat constructor); done)); exact rfl) | (apply EvW.pneN; exact rfl; exact rfl; exact UndC.eq)))
    | refine WC.seq ?_ | refine WC.region ?_ | refine WL.nil ?_ | refine WE.next ?_ | refine WL.wanted rfl rfl rfl ?_ | (apply WL.store; exact rfl; exact rfl; (first | assumption | exact rfl); exact SzC.eq; (first | assumption | exact rfl); (focus ((repeat constructor); done)))
  try refine WL.wanted rfl rfl rfl ?_
  apply WL.callA ([.blk b #[ptr q 0, ptr jb 0, av, uv] 80, rsH q K true x, .own 34 3 (av) (numd 1 all).length ((numd 1 all).flatMap recC), .own 34 3 (uv) (numd (all.length + 1) und).length ((numd (all.length + 1) und).flatMap recC)])
  · exact rfl
  · exact rfl
  · exact fun w => Try.call27 _ w
  · (focus ((repeat constructor); done))
  · exact fun w1 S1 hS1 hs1 ho1 => lopen_spec b q K true (ptr jb 0) av uv o.cv all und x o.cs w1 S1 hS1 (hs1 _ ho.cuts) ho.cl h1 h2 h3 (by omega) (by omega)
  rintro _ _ ⟨mb2, jb2, av2, rfl, rfl⟩
  first | refine WL.app4 ?_ | refine WL.app3 ?_ | refine WL.app2 ?_ | refine WL.app1 ?_ | refine WL.app0 ?_ | skip
  repeat first
    | (apply WL.q; exact rfl; exact rfl; exact rfl; (first | (apply EvW.assign; exact rfl) | (apply EvW.pickT; exact rfl; exact rfl)))
    | refine WL.nil ?_ | refine WE.next ?_ | refine WC.ret ?_ | refine WE.passRet ?_ | refine WE.outRet ?_
  refine WE.keep (xs := [upH jb2 mb2 (K + 4) true x, .blk b #[ptr mb2 0, ptr jb2 0, av2, .slice none 0 0] 80, .own 34 3 (av2) (numd 1 x).length ((numd 1 x).flatMap recC)]) (by repeat constructor) ?_
  refine WE.stUp (K' := K + 4) (und := []) (Nat.le_refl _) .head ?_
  refine WE.conv (fun _ hs => hs.ownNil (e := 34) (sz := 3)) ?_
  refine WE.keep (xs := [.blk b #[ptr mb2 0, ptr jb2 0, av2, .slice none 0 0] 80, stH jb2 mb2 (K + 4) x [] false, .own 34 3 (av2) (numd 1 x).length ((numd 1 x).flatMap recC), .own 34 3 (.slice none 0 0) (numd (x.length + 1) []).length ((numd (x.length + 1) []).flatMap recC)]) (by repeat constructor) ?_
  refine WE.ret1 rfl rfl ?_
  exact ⟨mb2, jb2, av2, .slice none 0 0, x, [], false, rfl, rfl, by omega, by decide, fun _ => rfl⟩
theorem op8_at {xs : List Op8} {w : World} {S : BSet} (h : ∀ x ∈ xs, x.Ok w S) {i : Nat} (hi : i < xs.length) : (xs.getD i default).Ok w S := by
  rw [List.getD_eq_getElem?_getD, List.getElem?_eq_getElem hi]
  exact h _ (List.getElem_mem hi)
theorem op8_one {x : Op8} {w : World} {S : BSet} (h : x.Ok w S) : (op8C x).all (·.oneCell') = true := by
  have h2 := h.cuts.row_one
  simp [op8C, h2]
  refine ⟨rfl, rfl, rfl⟩
theorem op8_down {o : Op8} {w w1 : World} {S S1 : BSet} (h : o.Ok w S) (hs1 : ∀ B, Sees w S B → Sees w1 S1 B) : o.Ok w1 S1 := ⟨hs1 _ h.cuts, h.cl, h.tl⟩
def backO : Op8 := ⟨3, ⟨0, []⟩, .slice none 0 0, []⟩
theorem backO_ok (w : World) (S : BSet) : backO.Ok w S := ⟨Sees.nilRow, by decide, by decide⟩
set_option maxHeartbeats 8000000 in
set_option maxRecDepth 8000 in
theorem play_spec (v : Value) (xs : List Op8) (w : World) (S : BSet) (hS : (sepL []).sat S w) (hv : Sees w S (.row 4 v xs.length (xs.flatMap op8C))) (hn : xs.length ≤ 1048576) (hx : ∀ x ∈ xs, x.Ok w S) :
    Tri Try.prog 16 #[v] w S fun u A => u = .bool true ∧ A = [] := by
  refine Tri.enter (l := [v]) Try.func16 rfl Try.ntmps16 rfl [(0, v)] (subA rfl) hS ?_
  repeat first
    | (apply WL.q; exact rfl; exact rfl; exact rfl; (first | (apply EvW.assign; exact rfl)))
    | refine WC.seq ?_ | refine WC.region ?_ | refine WL.nil ?_ | refine WE.next ?_
  try refine WL.wanted rfl rfl rfl ?_
  apply WL.callA ([])
  · exact rfl
  · exact rfl
  · exact fun w => Try.call10 _ w
  · (focus ((repeat constructor); done))
  · exact fun w1 S1 hS1 hs1 ho1 => new8 w1 S1 hS1
  rintro _ _ ⟨m0, rfl, rfl⟩
  first | refine WL.app4 ?_ | refine WL.app3 ?_ | refine WL.app2 ?_ | refine WL.app1 ?_ | refine WL.app0 ?_ | skip
  repeat first
    | (apply WL.q; exact rfl; exact rfl; exact rfl; (first | (apply EvW.build; exact PlC.eq; exact ZvC.eq; exact rfl; exact rfl; (focus ((repeat (first | exact Fills.nil | (apply Fills.cons; exact rfl; (first | assumption | exact rfl); exact rfl) | exact SetMany.nil | apply SetMany.cons | apply SetMany.succ)); done)))))
  try refine WL.wanted rfl rfl rfl ?_
  (apply WL.box; exact rfl; exact rfl; exact rfl; intro b)
  refine WL.ownNil 34 3 ?_
  refine WL.ownNil 34 3 ?_
  repeat first
    | (apply WL.q; exact rfl; exact rfl; exact rfl; (first | (apply EvW.move; exact rfl) | (apply EvW.assign; exact rfl)))
    | refine WC.seq ?_ | refine WC.region ?_ | refine WL.nil ?_ | refine WE.next ?_
  try refine WL.wanted rfl rfl rfl ?_
  apply WL.callA ([.blk b #[ptr m0 0, .pointer none, .slice none 0 0, .slice none 0 0] 80, rsH m0 0 true [], .own 34 3 (.slice none 0 0) (numd 1 []).length ((numd 1 []).flatMap recC), .own 34 3 (.slice none 0 0) (numd 1 []).length ((numd 1 []).flatMap recC)])
  · exact rfl
  · exact rfl
  · exact fun w => Try.call27 _ w
  · (focus ((repeat constructor); done))
  · exact fun w1 S1 hS1 hs1 ho1 => lopen_spec b m0 0 true (.pointer none) (.slice none 0 0) (.slice none 0 0) (.slice none 0 0) [] [] [] [] w1 S1 hS1 Sees.nilRow (by decide) (Nat.le_refl _) (Nat.le_refl _) rfl (by decide) (by decide)
  rintro _ _ ⟨m1, j1, a1, rfl, rfl⟩
  first | refine WL.app4 ?_ | refine WL.app3 ?_ | refine WL.app2 ?_ | refine WL.app1 ?_ | refine WL.app0 ?_ | skip
  refine WL.conv (A' := [stH j1 m1 4 [] [] false, .blk b #[ptr m1 0, ptr j1 0, a1, .slice none 0 0] 80, .own 34 3 (a1) (numd 1 []).length ((numd 1 []).flatMap recC), .own 34 3 (.slice none 0 0) (numd 1 []).length ((numd 1 []).flatMap recC)]) (fun _ hs => ?_) ?_
  · have h2 : St w S [upH j1 m1 (0 + 4) true [], .blk b #[ptr m1 0, ptr j1 0, a1, .slice none 0 0] 80, .own 34 3 (a1) (numd 1 []).length ((numd 1 []).flatMap recC), .own 34 3 (.slice none 0 0) (numd 1 []).length ((numd 1 []).flatMap recC)] _ := (hs.ownNil (e := 34) (sz := 3)).keep (by repeat constructor)
    exact h2.mono fun S w h => up_weak h (by decide)
  repeat first
    | (apply WL.q; exact rfl; exact rfl; exact rfl; (first | (apply EvW.move; exact rfl) | (apply EvW.notT; exact rfl) | (apply EvW.lenRow; exact rfl; exact UndC.eq; assumption)))
    | refine WC.seq ?_ | refine WC.region ?_ | refine WL.nil ?_ | refine WE.next ?_ | refine WC.block ?_ | refine WC.skip ?_ | refine WC.condF rfl ?_
  refine WC.loopK (σ := Nat × Nat × Nat × Value × Value × List Rec × List Rec × Bool) [3, 16, 17] (fun s => [(18, i64 s.1)]) (fun s => [.blk b #[ptr s.2.1 0, ptr s.2.2.1 0, s.2.2.2.1, s.2.2.2.2.1] 80, stH s.2.2.1 s.2.1 (4 + 4 * s.1) s.2.2.2.2.2.1 s.2.2.2.2.2.2.1 s.2.2.2.2.2.2.2, .own 34 3 (s.2.2.2.1) (numd 1 s.2.2.2.2.2.1).length ((numd 1 s.2.2.2.2.2.1).flatMap recC), .own 34 3 (s.2.2.2.2.1) (numd (s.2.2.2.2.2.1.length + 1) s.2.2.2.2.2.2.1).length ((numd (s.2.2.2.2.2.1.length + 1) s.2.2.2.2.2.2.1).flatMap recC)]) (fun s => s.1 ≤ xs.length ∧ s.2.2.2.2.2.1.length ≤ s.1 ∧ s.2.2.2.2.2.2.1.length ≤ 1 ∧ (s.2.2.2.2.2.2.2 = false → s.2.2.2.2.2.2.1 = [])) (fun s => xs.length - s.1) (0, m1, j1, a1, .slice none 0 0, [], [], false) (by (focus ((repeat (first | exact Pick.nil | (apply Pick.cons; exact rfl))); done))) (by (focus ((repeat (first | exact trivial | (refine ⟨rfl, ?_⟩))); done))) (fun _ h => h.keep (by repeat constructor)) ⟨Nat.zero_le _, Nat.le_refl _, Nat.zero_le 1, fun _ => rfl⟩ (fun s hs => ?_)
  obtain ⟨i, mb, jb, av, uv, all, und, d⟩ := s
  simp only [List.cons_append, List.nil_append] at hs ⊢
  obtain ⟨hi0, hall, hul, hud⟩ := hs
  by_cases hlt : (i : Int) < xs.length
  · have hxo := op8_at hx (show i < xs.length by omega)
    repeat first
      | (apply WL.q; exact rfl; exact rfl; exact rfl; (first | (apply EvW.cmpT; exact rfl; exact rfl; exact rfl; omega) | (apply EvW.idxRow; exact rfl; exact rfl; exact UndC.eq; exact SzC.eq; assumption; omega; omega)))
      | refine WC.seq ?_ | refine WC.region ?_ | refine WL.nil ?_ | refine WE.next ?_ | refine WC.block ?_ | refine WC.skip ?_ | refine WC.condT rfl ?_
    (apply WL.q; exact rfl; exact rfl; exact rfl; (apply EvW.ldElem (xs := xs) (z := (default : Op8)) (f := op8C); exact rfl; exact AggC.eq; exact SzC.eq; exact rfl; exact fun _ => rfl; assumption; omega))
    rw [show ((i : Nat) : Int).toNat = i from rfl]
    try refine WL.wanted rfl rfl rfl ?_
    (apply WL.alloc; exact rfl; exact ZvC.eq; exact rfl; intro z)
    generalize xs.getD i default = x at hxo
    have hcv := hxo.cuts.row_one
    have hone := op8_one hxo
    cases d with
    | false =>
      obtain rfl := hud rfl
      rw [show stH jb mb (4 + 4 * i) all [] false = upH jb mb (4 + 4 * i) false all from rfl]
      repeat first
        | (apply WL.q; exact rfl; exact rfl; exact rfl; (first | (apply EvW.move; exact rfl) | (apply EvW.nilPtr; exact rfl) | (apply EvW.fieldAddr0; exact rfl; exact FldC.eq) | (apply EvW.load; exact rfl; exact ScalC.eq; (focus ((repeat constructor); done)); exact rfl)))
        | refine WC.seq ?_ | refine WC.region ?_ | refine WL.nil ?_ | refine WE.next ?_ | (apply WL.store; exact rfl; exact rfl; (first | assumption | exact rfl); exact SzC.eq; (first | assumption | exact rfl); (focus ((repeat constructor); done)))
      try refine WL.wanted rfl rfl rfl ?_
      apply WL.callA ([upH jb mb (4 + 4 * i) false all])
      · exact rfl
      · exact rfl
      · exact fun w => Try.call18 _ w
      · (focus ((repeat constructor); done))
      · exact fun w1 S1 hS1 hs1 ho1 => down_up jb mb (4 + 4 * i) false all w1 S1 hS1
      rintro _ _ ⟨rfl, rfl⟩
      first | refine WL.app4 ?_ | refine WL.app3 ?_ | refine WL.app2 ?_ | refine WL.app1 ?_ | refine WL.app0 ?_ | skip
      repeat first
        | (apply WL.q; exact rfl; exact rfl; exact rfl; (first | (apply EvW.move; exact rfl) | (apply EvW.pickF; exact rfl; exact rfl) | (apply EvW.loadAgg; exact rfl; exact AggC.eq; exact SzC.eq; (focus ((repeat constructor); done)); (focus ((repeat (first | exact SubL.nil | apply SubL.cons | apply SubL.succ)); done)))))
        | refine WC.seq ?_ | refine WC.region ?_ | refine WL.nil ?_ | refine WE.next ?_ | refine WC.skip ?_ | refine WC.condF rfl ?_ | refine WL.unwanted rfl rfl rfl rfl ?_
      try refine WL.wanted rfl rfl rfl ?_
      apply WL.callA ([.blk b #[ptr mb 0, ptr jb 0, av, uv] 80, upH jb mb (4 + 4 * i) false all, .own 34 3 (av) (numd 1 all).length ((numd 1 all).flatMap recC), .own 34 3 (uv) (numd (all.length + 1) []).length ((numd (all.length + 1) []).flatMap recC)])
      · exact rfl
      · exact rfl
      · exact fun w => Try.call28 _ w
      · (focus ((repeat constructor); done))
      · exact fun w1 S1 hS1 hs1 ho1 => step_up b mb jb (4 + 4 * i) av uv all x w1 S1 hS1 (op8_down hxo hs1) (by omega) (by omega)
      rintro _ _ ⟨mb2, jb2, av2, uv2, al2, un2, d2, rfl, rfl, hl2, hu2, hd2⟩
      first | refine WL.app4 ?_ | refine WL.app3 ?_ | refine WL.app2 ?_ | refine WL.app1 ?_ | refine WL.app0 ?_ | skip
      rw [show 4 + 4 * i + 4 = 4 + 4 * (i + 1) by omega]
      repeat first
        | (apply WL.q; exact rfl; exact rfl; exact rfl; (first | (apply EvW.move; exact rfl) | (apply EvW.arN; exact rfl; exact rfl; exact rfl; refine i64_in ?_ ?_ <;> omega) | (apply EvW.notT; exact rfl)))
        | refine WC.region ?_ | refine WL.nil ?_ | refine WE.next ?_ | refine WC.skip ?_ | refine WE.out ?_ | refine WC.condF rfl ?_
      exact WE.again (s := (i, mb, jb, av, uv, all, ([] : List Rec), false)) ((i + 1, mb2, jb2, av2, uv2, al2, un2, d2)) ⟨by (simp only []; omega), by (simp only []; omega), hu2, hd2⟩ (by (focus ((repeat (first | exact trivial | (refine ⟨rfl, ?_⟩))); done))) (fun _ h => (by (try simp only []); exact h.keep (by repeat constructor))) (by (try simp only []); omega)
    | true =>
      rw [show stH jb mb (4 + 4 * i) all und true = dnH mb (4 + 4 * i) (fun x => x = all ∨ x = all ++ und) from rfl]
      by_cases hk : x.k = 3
      · repeat first
          | (apply WL.q; exact rfl; exact rfl; exact rfl; (first | (apply EvW.move; exact rfl) | (apply EvW.nilPtr; exact rfl) | (apply EvW.fieldAddr0; exact rfl; exact FldC.eq) | (apply EvW.load; exact rfl; exact ScalC.eq; (focus ((repeat constructor); done)); exact rfl)))
          | refine WC.seq ?_ | refine WC.region ?_ | refine WL.nil ?_ | refine WE.next ?_ | (apply WL.store; exact rfl; exact rfl; (first | assumption | exact rfl); exact SzC.eq; (first | assumption | exact rfl); (focus ((repeat constructor); done)))
        try refine WL.wanted rfl rfl rfl ?_
        apply WL.callA ([dnH mb (4 + 4 * i) (fun x => x = all ∨ x = all ++ und)])
        · exact rfl
        · exact rfl
        · exact fun w => Try.call18 _ w
        · (focus ((repeat constructor); done))
        · exact fun w1 S1 hS1 hs1 ho1 => down_dn mb (4 + 4 * i) (fun x => x = all ∨ x = all ++ und) w1 S1 hS1
        rintro _ _ ⟨rfl, rfl⟩
        first | refine WL.app4 ?_ | refine WL.app3 ?_ | refine WL.app2 ?_ | refine WL.app1 ?_ | refine WL.app0 ?_ | skip
        rw [hk]
        repeat first
          | (apply WL.q; exact rfl; exact rfl; exact rfl; (first | (apply EvW.move; exact rfl) | (apply EvW.fieldAddr0; exact rfl; exact FldC.eq) | (apply EvW.load; exact rfl; exact ScalC.eq; (focus ((repeat constructor); done)); exact rfl) | (apply EvW.cmpF; exact rfl; exact rfl; exact rfl; omega) | (apply EvW.pickT; exact rfl; exact rfl) | (apply EvW.loadAgg; exact rfl; exact AggC.eq; exact SzC.eq; (focus ((repeat constructor); done)); (focus ((repeat (first | exact SubL.nil | apply SubL.cons | apply SubL.succ)); done)))))
          | refine WC.seq ?_ | refine WC.region ?_ | refine WL.nil ?_ | refine WE.next ?_ | refine WC.skip ?_ | refine WC.condF rfl ?_ | refine WL.wanted rfl rfl rfl ?_
        try refine WL.wanted rfl rfl rfl ?_
        apply WL.callA ([.blk b #[ptr mb 0, ptr jb 0, av, uv] 80, dnH mb (4 + 4 * i) (fun x => x = all ∨ x = all ++ und), .own 34 3 (av) (numd 1 all).length ((numd 1 all).flatMap recC), .own 34 3 (uv) (numd (all.length + 1) und).length ((numd (all.length + 1) und).flatMap recC)])
        · exact rfl
        · exact rfl
        · exact fun w => Try.call28 _ w
        · (focus ((repeat constructor); done))
        · exact fun w1 S1 hS1 hs1 ho1 => step_dn b mb jb (4 + 4 * i) av uv all und x w1 S1 hS1 (op8_down hxo hs1) (by omega) (by omega) hul
        rintro _ _ ⟨mb2, jb2, av2, uv2, al2, un2, d2, rfl, rfl, hl2, hu2, hd2⟩
        first | refine WL.app4 ?_ | refine WL.app3 ?_ | refine WL.app2 ?_ | refine WL.app1 ?_ | refine WL.app0 ?_ | skip
        rw [show 4 + 4 * i + 4 = 4 + 4 * (i + 1) by omega]
        repeat first
          | (apply WL.q; exact rfl; exact rfl; exact rfl; (first | (apply EvW.move; exact rfl) | (apply EvW.arN; exact rfl; exact rfl; exact rfl; refine i64_in ?_ ?_ <;> omega) | (apply EvW.notT; exact rfl)))
          | refine WC.region ?_ | refine WL.nil ?_ | refine WE.next ?_ | refine WC.skip ?_ | refine WE.out ?_ | refine WC.condF rfl ?_
        exact WE.again (s := (i, mb, jb, av, uv, all, und, true)) ((i + 1, mb2, jb2, av2, uv2, al2, un2, d2)) ⟨by (simp only []; omega), by (simp only []; omega), hu2, hd2⟩ (by (focus ((repeat (first | exact trivial | (refine ⟨rfl, ?_⟩))); done))) (fun _ h => (by (try simp only []); exact h.keep (by repeat constructor))) (by (try simp only []); omega)
      · repeat first
          | (apply WL.q; exact rfl; exact rfl; exact rfl; (first | (apply EvW.move; exact rfl) | (apply EvW.nilPtr; exact rfl) | (apply EvW.fieldAddr0; exact rfl; exact FldC.eq) | (apply EvW.load; exact rfl; exact ScalC.eq; (focus ((repeat constructor); done)); exact rfl)))
          | refine WC.seq ?_ | refine WC.region ?_ | refine WL.nil ?_ | refine WE.next ?_ | (apply WL.store; exact rfl; exact rfl; (first | assumption | exact rfl); exact SzC.eq; (first | assumption | exact rfl); (focus ((repeat constructor); done)))
        try refine WL.wanted rfl rfl rfl ?_
        apply WL.callA ([dnH mb (4 + 4 * i) (fun x => x = all ∨ x = all ++ und)])
        · exact rfl
        · exact rfl
        · exact fun w => Try.call18 _ w
        · (focus ((repeat constructor); done))
        · exact fun w1 S1 hS1 hs1 ho1 => down_dn mb (4 + 4 * i) (fun x => x = all ∨ x = all ++ und) w1 S1 hS1
        rintro _ _ ⟨rfl, rfl⟩
        first | refine WL.app4 ?_ | refine WL.app3 ?_ | refine WL.app2 ?_ | refine WL.app1 ?_ | refine WL.app0 ?_ | skip
        repeat first
          | (apply WL.q; exact rfl; exact rfl; exact rfl; (first | (apply EvW.move; exact rfl) | (apply EvW.fieldAddr0; exact rfl; exact FldC.eq) | (apply EvW.load; exact rfl; exact ScalC.eq; (focus ((repeat constructor); done)); exact rfl) | (apply EvW.cmpT; exact rfl; exact rfl; exact rfl; omega) | (apply EvW.pickT; exact rfl; exact rfl) | (apply EvW.loadAgg; exact rfl; exact AggC.eq; exact SzC.eq; (focus ((repeat constructor); done)); (focus ((repeat (first | exact SubL.nil | apply SubL.cons | apply SubL.succ)); done))) | (apply EvW.build; exact PlC.eq; exact ZvC.eq; exact rfl; exact rfl; (focus ((repeat (first | exact Fills.nil | (apply Fills.cons; exact rfl; (first | assumption | exact rfl); exact rfl) | exact SetMany.nil | apply SetMany.cons | apply SetMany.succ)); done)))))
          | refine WC.seq ?_ | refine WC.region ?_ | refine WL.nil ?_ | refine WE.next ?_ | refine WC.condT rfl ?_ | refine WL.wanted rfl rfl rfl ?_ | (apply WL.store; exact rfl; exact rfl; (first | assumption | exact rfl); exact SzC.eq; (first | assumption | exact rfl); (focus ((repeat constructor); done)))
        try refine WL.wanted rfl rfl rfl ?_
        apply WL.callA ([.blk b #[ptr mb 0, ptr jb 0, av, uv] 80, dnH mb (4 + 4 * i) (fun x => x = all ∨ x = all ++ und), .own 34 3 (av) (numd 1 all).length ((numd 1 all).flatMap recC), .own 34 3 (uv) (numd (all.length + 1) und).length ((numd (all.length + 1) und).flatMap recC)])
        · exact rfl
        · exact rfl
        · exact fun w => Try.call28 _ w
        · (focus ((repeat constructor); done))
        · exact fun w1 S1 hS1 hs1 ho1 => step_dn b mb jb (4 + 4 * i) av uv all und backO w1 S1 hS1 (backO_ok _ _) (by omega) (by omega) hul
        rintro _ _ ⟨mb2, jb2, av2, uv2, al2, un2, d2, rfl, rfl, hl2, hu2, hd2⟩
        first | refine WL.app4 ?_ | refine WL.app3 ?_ | refine WL.app2 ?_ | refine WL.app1 ?_ | refine WL.app0 ?_ | skip
        rw [show 4 + 4 * i + 4 = 4 + 4 * (i + 1) by omega]
        repeat first
          | (apply WL.q; exact rfl; exact rfl; exact rfl; (first | (apply EvW.move; exact rfl) | (apply EvW.arN; exact rfl; exact rfl; exact rfl; refine i64_in ?_ ?_ <;> omega) | (apply EvW.notT; exact rfl)))
          | refine WC.region ?_ | refine WL.nil ?_ | refine WE.next ?_ | refine WC.skip ?_ | refine WE.out ?_ | refine WC.condF rfl ?_
        exact WE.again (s := (i, mb, jb, av, uv, all, und, true)) ((i + 1, mb2, jb2, av2, uv2, al2, un2, d2)) ⟨by (simp only []; omega), by (simp only []; omega), hu2, hd2⟩ (by (focus ((repeat (first | exact trivial | (refine ⟨rfl, ?_⟩))); done))) (fun _ h => (by (try simp only []); exact h.keep (by repeat constructor))) (by (try simp only []); omega)
  · cases d with
    | false =>
      obtain rfl := hud rfl
      rw [show stH jb mb (4 + 4 * i) all [] false = upH jb mb (4 + 4 * i) false all from rfl]
      repeat first
        | (apply WL.q; exact rfl; exact rfl; exact rfl; (first | (apply EvW.move; exact rfl) | (apply EvW.nilPtr; exact rfl) | (apply EvW.fieldAddr0; exact rfl; exact FldC.eq) | (apply EvW.load; exact rfl; exact ScalC.eq; (focus ((repeat constructor); done)); exact rfl) | (apply EvW.cmpF; exact rfl; exact rfl; exact rfl; omega)))
        | refine WC.seq ?_ | refine WC.region ?_ | refine WL.nil ?_ | refine WE.next ?_ | refine WC.exit ?_ | refine WE.pass ?_ | refine WE.hit ?_ | refine WC.condF rfl ?_
      try refine WL.wanted rfl rfl rfl ?_
      apply WL.callA ([upH jb mb (4 + 4 * i) false all])
      · exact rfl
      · exact rfl
      · exact fun w => Try.call18 _ w
      · (focus ((repeat constructor); done))
      · exact fun w1 S1 hS1 hs1 ho1 => down_up jb mb (4 + 4 * i) false all w1 S1 hS1
      rintro _ _ ⟨rfl, rfl⟩
      first | refine WL.app4 ?_ | refine WL.app3 ?_ | refine WL.app2 ?_ | refine WL.app1 ?_ | refine WL.app0 ?_ | skip
      repeat first
        | (apply WL.q; exact rfl; exact rfl; exact rfl; (first | (apply EvW.move; exact rfl) | (apply EvW.nilPtr; exact rfl) | (apply EvW.fieldAddr0; exact rfl; exact FldC.eq) | (apply EvW.load; exact rfl; exact ScalC.eq; (focus ((repeat constructor); done)); exact rfl)))
        | refine WC.seq ?_ | refine WC.region ?_ | refine WL.nil ?_ | refine WE.next ?_ | refine WC.skip ?_ | refine WC.condF rfl ?_
      try refine WL.wanted rfl rfl rfl ?_
      apply WL.callA ([upH jb mb (4 + 4 * i) false all])
      · exact rfl
      · exact rfl
      · exact fun w => Try.call15 _ w
      · (focus ((repeat constructor); done))
      · exact fun w1 S1 hS1 hs1 ho1 => safe_up jb mb (4 + 4 * i) false all w1 S1 hS1
      rintro _ _ ⟨rfl, rfl⟩
      first | refine WL.app4 ?_ | refine WL.app3 ?_ | refine WL.app2 ?_ | refine WL.app1 ?_ | refine WL.app0 ?_ | skip
      repeat first
        | (apply WL.q; exact rfl; exact rfl; exact rfl; (first | (apply EvW.move; exact rfl) | (apply EvW.assign; exact rfl) | (apply EvW.nilPtr; exact rfl) | (apply EvW.fieldAddr0; exact rfl; exact FldC.eq) | (apply EvW.load; exact rfl; exact ScalC.eq; (focus ((repeat constructor); done)); exact rfl) | (apply EvW.extract; exact rfl; exact rfl)))
        | refine WC.seq ?_ | refine WC.region ?_ | refine WL.nil ?_ | refine WE.next ?_
      try refine WL.wanted rfl rfl rfl ?_
      apply WL.callA ([])
      · exact rfl
      · exact rfl
      · exact fun w => Try.call29 _ w
      · (focus ((repeat constructor); done))
      · exact fun w1 S1 hS1 hs1 ho1 => rsafe_spec av all w1 S1 hS1 (by have h := (ho1 (.own 34 3 (av) (numd 1 all).length ((numd 1 all).flatMap recC)) _ (by repeat constructor)).own; rw [numd_len] at h; exact h) (by omega)
      rintro _ _ ⟨rfl, rfl⟩
      first | refine WL.app4 ?_ | refine WL.app3 ?_ | refine WL.app2 ?_ | refine WL.app1 ?_ | refine WL.app0 ?_ | skip
      repeat first
        | (apply WL.q; exact rfl; exact rfl; exact rfl; (first | (apply EvW.move; exact rfl) | (apply EvW.assign; exact rfl) | (apply EvW.extract; exact rfl; exact rfl) | (apply EvW.pickT; exact rfl; exact rfl) | (apply EvW.seqS; exact rfl; exact rfl) | (apply EvW.beqS; exact rfl; exact rfl; exact UndC.eq)))
        | refine WC.seq ?_ | refine WC.region ?_ | refine WL.nil ?_ | refine WE.next ?_ | refine WC.ret ?_ | refine WL.wanted rfl rfl rfl ?_
      refine WE.keep (xs := []) (by repeat constructor) ?_
      refine WE.ret1 rfl rfl ?_
      exact ⟨rfl, rfl⟩
    | true =>
      rw [show stH jb mb (4 + 4 * i) all und true = dnH mb (4 + 4 * i) (fun x => x = all ∨ x = all ++ und) from rfl]
      repeat first
        | (apply WL.q; exact rfl; exact rfl; exact rfl; (first | (apply EvW.move; exact rfl) | (apply EvW.nilPtr; exact rfl) | (apply EvW.fieldAddr0; exact rfl; exact FldC.eq) | (apply EvW.load; exact rfl; exact ScalC.eq; (focus ((repeat constructor); done)); exact rfl) | (apply EvW.cmpF; exact rfl; exact rfl; exact rfl; omega)))
        | refine WC.seq ?_ | refine WC.region ?_ | refine WL.nil ?_ | refine WE.next ?_ | refine WC.exit ?_ | refine WE.pass ?_ | refine WE.hit ?_ | refine WC.condF rfl ?_
      try refine WL.wanted rfl rfl rfl ?_
      apply WL.callA ([dnH mb (4 + 4 * i) (fun x => x = all ∨ x = all ++ und)])
      · exact rfl
      · exact rfl
      · exact fun w => Try.call18 _ w
      · (focus ((repeat constructor); done))
      · exact fun w1 S1 hS1 hs1 ho1 => down_dn mb (4 + 4 * i) (fun x => x = all ∨ x = all ++ und) w1 S1 hS1
      rintro _ _ ⟨rfl, rfl⟩
      first | refine WL.app4 ?_ | refine WL.app3 ?_ | refine WL.app2 ?_ | refine WL.app1 ?_ | refine WL.app0 ?_ | skip
      repeat first
        | (apply WL.q; exact rfl; exact rfl; exact rfl; (first | (apply EvW.move; exact rfl) | (apply EvW.build; exact PlC.eq; exact ZvC.eq; exact rfl; exact rfl; (focus ((repeat (first | exact Fills.nil | (apply Fills.cons; exact rfl; (first | assumption | exact rfl); exact rfl) | exact SetMany.nil | apply SetMany.cons | apply SetMany.succ)); done)))))
        | refine WC.seq ?_ | refine WC.region ?_ | refine WL.nil ?_ | refine WE.next ?_ | refine WC.condT rfl ?_
      try refine WL.wanted rfl rfl rfl ?_
      apply WL.callA ([.blk b #[ptr mb 0, ptr jb 0, av, uv] 80, dnH mb (4 + 4 * i) (fun x => x = all ∨ x = all ++ und), .own 34 3 (av) (numd 1 all).length ((numd 1 all).flatMap recC), .own 34 3 (uv) (numd (all.length + 1) und).length ((numd (all.length + 1) und).flatMap recC)])
      · exact rfl
      · exact rfl
      · exact fun w => Try.call28 _ w
      · (focus ((repeat constructor); done))
      · exact fun w1 S1 hS1 hs1 ho1 => step_dn b mb jb (4 + 4 * i) av uv all und backO w1 S1 hS1 (backO_ok _ _) (by omega) (by omega) hul
      rintro _ _ ⟨mb2, jb2, av2, uv2, al2, un2, d2, rfl, rfl, hl2, hu2, hd2⟩
      first | refine WL.app4 ?_ | refine WL.app3 ?_ | refine WL.app2 ?_ | refine WL.app1 ?_ | refine WL.app0 ?_ | skip
      repeat first
        | (apply WL.q; exact rfl; exact rfl; exact rfl; (first | (apply EvW.assign; exact rfl)))
        | refine WL.nil ?_ | refine WE.next ?_ | refine WC.ret ?_ | refine WE.passRet ?_
      refine WE.keep (xs := []) (by repeat constructor) ?_
      refine WE.ret1 rfl rfl ?_
      exact ⟨rfl, rfl⟩
theorem journalLasts_law (v : Value) (xs : List Op8) (w : World) (S : BSet) (hS : (sepL []).sat S w) (hv : Sees w S (.row 4 v xs.length (xs.flatMap op8C))) (hn : xs.length ≤ 1048576) (hx : ∀ x ∈ xs, x.Ok w S) :
    Tri Try.prog 5 #[v] w S fun u A => u = .bool true := by
  refine Tri.enter (l := [v]) Try.func5 rfl Try.ntmps5 rfl [(0, v)] (subA rfl) hS ?_
  repeat first
    | (apply WL.q; exact rfl; exact rfl; exact rfl; (first | (apply EvW.assign; exact rfl)))
    | refine WC.seq ?_ | refine WC.region ?_ | refine WL.nil ?_ | refine WE.next ?_
  try refine WL.wanted rfl rfl rfl ?_
  apply WL.callA ([])
  · exact rfl
  · exact rfl
  · exact fun w => Try.call9 _ w
  · (focus ((repeat constructor); done))
  · exact fun w1 S1 hS1 hs1 ho1 => lives8_spec w1 S1 hS1
  rintro _ _ ⟨rfl, rfl⟩
  first | refine WL.app4 ?_ | refine WL.app3 ?_ | refine WL.app2 ?_ | refine WL.app1 ?_ | refine WL.app0 ?_ | skip
  repeat first
    | (apply WL.q; exact rfl; exact rfl; exact rfl; (first | (apply EvW.move; exact rfl)))
    | refine WL.wanted rfl rfl rfl ?_
  try refine WL.wanted rfl rfl rfl ?_
  apply WL.callA ([])
  · exact rfl
  · exact rfl
  · exact fun w => Try.call16 _ w
  · (focus ((repeat constructor); done))
  · exact fun w1 S1 hS1 hs1 ho1 => play_spec v xs w1 S1 hS1 (hs1 _ hv) hn (fun x hx1 => op8_down (hx x hx1) hs1)
  rintro _ _ ⟨rfl, rfl⟩
  first | refine WL.app4 ?_ | refine WL.app3 ?_ | refine WL.app2 ?_ | refine WL.app1 ?_ | refine WL.app0 ?_ | skip
  repeat first
    | (apply WL.q; exact rfl; exact rfl; exact rfl; (first | (apply EvW.assign; exact rfl) | (apply EvW.pickT; exact rfl; exact rfl)))
    | refine WL.nil ?_ | refine WE.next ?_ | refine WC.ret ?_
  refine WE.ret1 rfl rfl ?_
  rfl
end Go.Proofs.Ytknclcjmfgdphaa
namespace Go.Proofs.Ytknclcjmfgdphaa
open Go.RowKit Go.BK
theorem Try.own : ownKnob Try.prog.godebug = none := by kernel_rfl
theorem Try.laidOut : laidOutB Try.prog = true := by kernel_rfl
end Go.Proofs.Ytknclcjmfgdphaa
namespace Go.Proofs.Ytknclcjmfgdphaa
open Go.ChangeShapes Go.WideShapes Go.ChangeAt Go.RowKit Go.BK
def op8Mu (o : Op8) : Nat := o.r.text.length + o.cs.length + 1
structure Op8.Seen (o : Op8) (w : World) (S : BSet) : Prop where
  cuts : Sees w S (.row 2 o.cv o.cs.length (o.cs.flatMap cutC))
theorem opensU_cut8 {H : Type} {enc : TypeId × Value → H} {W : World} : OpensU enc Try.prog W 52 cutC (fun _ => True) (fun _ => 1) :=
  (OpensU.struct Try.underlying52 (by kernel_rfl) (FOU.cons (off' := 1) (OpensU.int Try.underlying3) (by kernel_rfl) (by kernel_rfl) (FOU.cons (off' := 2) (OpensU.int Try.underlying3) (by kernel_rfl) (by kernel_rfl) FOU.nil))).map
    (fun p => Cut.mk p.1 p.2.1) (fun _ _ => rfl) (fun _ _ => trivial) (fun _ _ => by omega)
theorem sum_one8 {α : Type} (l : List α) : (l.map fun _ => 1).sum = l.length := by
  induction l with
  | nil => rfl
  | cons x r ih => rw [List.map_cons, List.sum_cons, ih, List.length_cons]; omega
theorem opensU_op8 {H : Type} {enc : TypeId × Value → H} {W : World} : OpensU enc Try.prog W 50 op8C (fun o => o.Seen W (fun _ => False)) op8Mu :=
  (OpensU.struct Try.underlying50 (by kernel_rfl) (FOU.cons (off' := 1) (OpensU.int Try.underlying3) (by kernel_rfl) (by kernel_rfl) (FOU.cons (off' := 2) (OpensU.int Try.underlying3) (by kernel_rfl) (by kernel_rfl) (FOU.cons (off' := 3) (OpensU.str Try.underlying9) (by kernel_rfl) (by kernel_rfl)
    (FOU.cons (off' := 4) (OpensU.slice (sz := 2) Try.underlying48 (by kernel_rfl) (by decide) (fun _ => rfl) opensU_cut8) (by kernel_rfl) (by kernel_rfl) FOU.nil))))).map
    (fun p => Op8.mk p.1 ⟨p.2.1, p.2.2.1⟩ p.2.2.2.1.1 p.2.2.2.1.2) (fun _ _ => rfl)
    (fun p h => ⟨h.2.2.2.1.1⟩)
    (fun p _ => by
      have := sum_one8 p.2.2.2.1.2
      unfold op8Mu
      simp only [] at this ⊢
      omega)
theorem ops8_small : ∀ {xs : List Op8} {B : Nat}, (xs.map op8Mu).sum ≤ B → xs.length ≤ B ∧ ∀ o ∈ xs, op8Mu o ≤ B := by
  intro xs
  induction xs with
  | nil => intro B _; exact ⟨by simp, fun i h => by cases h⟩
  | cons x r ih =>
    intro B h
    simp only [List.map_cons, List.sum_cons] at h
    have h1 : 1 ≤ op8Mu x := by unfold op8Mu; omega
    obtain ⟨h2, h3⟩ := ih (B := B - op8Mu x) (by omega)
    refine ⟨by simp only [List.length_cons]; omega, fun i hi => ?_⟩
    rcases List.mem_cons.1 hi with rfl | hi
    · omega
    · have := h3 i hi; omega
set_option maxRecDepth 100000 in
theorem journalLasts_lifted (os : Os) (started : os.Started) (H : Type) (enc : TypeId × Value → H) (F : Stop.Interp) :
    ReturnsInHanded {} Try.checked os 5 .any ((Rows.OpenSpec.upto Rows.journalLastsSpec).pre6 enc Try.prog Try.f5 Rows.journalLastsUptoRow.domain false) (((Rows.OpenSpec.upto Rows.journalLastsSpec).at F).post enc Try.prog Try.f5 false true false false) := by
  refine law_liftedU (C := Try.checked) (s := Rows.journalLastsSpec) (tb := 4) Try.own started (by kernel_rfl) Try.func5 rfl Try.underlying4 rfl Try.laidOut (by kernel_rfl) (by intro ds h; match ds, h with | [d1], _ => rfl)
    (OpenSpec.witness (enc := enc) (C := Try.checked) (s := Rows.OpenSpec.upto Rows.journalLastsSpec) (k := Rows.uptoSmall) rfl false ⟨#[], #[.slice none 0 0], []⟩ 8 (by kernel_rfl) (by kernel_rfl) (by kernel_rfl)
      (x := ([.nil], [], [])) (by kernel_rfl) rfl (by kernel_rfl)) ?_
  intro W base args ds p hval hA0 hk
  have hA : DataW.TrodAll enc Try.prog W 0 (fun _ => true) true Try.f5.params.toList args.toList ds p := hA0
  rw [Try.params5] at hA hval
  clear hA0
  obtain ⟨v0, vs, d0, ds0, p0, q0, hargs, rfl, rfl, h0, r0⟩ := trodAll_cons hA
  obtain ⟨rfl, rfl, rfl⟩ := trodAll_nil r0
  obtain rfl : args = #[v0] := by cases args; simp_all
  obtain ⟨xs, hx, hq, hb⟩ := argU_slice (sz := 4) Try.underlying46 (by kernel_rfl) (by decide) (fun _ => rfl) opensU_op8 (hval 0 46 v0 rfl rfl) h0
  simp only [Rows.uptoBulkAll, Rows.uptoBulk] at hk
  obtain ⟨h2, h3⟩ := ops8_small (xs := xs) (B := 1048576) (by omega)
  exact (journalLasts_law v0 xs W _ (fun _ h => h) hx h2 (fun o ho => by
    have h4 := h3 o ho
    unfold op8Mu at h4
    exact ⟨(hq o ho).cuts, by omega, by omega⟩)).law (fun _ _ h => h)
theorem journalLasts_holds : Rows.JournalLastsUptoSaid :=
  OpenClaim.holds_of_cond 5 Try.f5 rfl rfl rfl rfl rfl rfl rfl ⟨rfl, rfl, rfl, rfl, rfl⟩ rfl rfl rfl rfl rfl (by kernel_rfl) Try.func5 (by kernel_rfl)
    (of_decide_eq_true (by kernel_rfl)) (by unfold Func.isWrapper; first | (rw [if_pos (by decide +kernel)]; kernel_rfl) | (rw [if_neg (by decide +kernel)]; exact ⟨rfl, rfl⟩))
    (fun os started H enc _ F => journalLasts_lifted os started H enc F)
end Go.Proofs.Ytknclcjmfgdphaa
