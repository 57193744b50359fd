/- JournalQuiet holds for every input: without cuts a journal finds its last records again whenever it is opened, and its safety state for ever. No condition. -/
import Derived.Test.YtknclcjmfgdphaaJnPfM5
namespace Go.Proofs.Ytknclcjmfgdphaa
open Go.RowKit Go.BK
theorem dn_le {mb K K' : Nat} {Q : List Rec → Prop} {L : List HP} {S : BSet} {w : World} (h : (sepL (dnH mb K Q :: L)).sat S w) (hk : K ≤ K') : (sepL (dnH mb K' Q :: L)).sat S w := by
  obtain ⟨x, ⟨hm, hJ⟩, hx⟩ := dn_open h
  exact dn_shut x ⟨hm.up hk, hJ⟩ hx
set_option maxHeartbeats 8000000 in
set_option maxRecDepth 8000 in
theorem step_up (b mb jb K : Nat) (av uv : Value) (all : List Rec) (o : Op8) (w : World) (S : BSet) (hS : (sepL [.blk b #[ptr mb 0, ptr jb 0, av, uv] 80, upH jb mb K false all, .own 34 3 (av) (numd 1 all).length ((numd 1 all).flatMap recC), .own 34 3 (uv) (numd (all.length + 1) []).length ((numd (all.length + 1) []).flatMap recC)]).sat S w) (ho : o.Ok w S) (hK : K ≤ 1099511600000) (hfew : all.length ≤ 4294967280) :
    Tri Try.prog 28 #[ptr b 0, .agg #[i64 o.k, i64 o.r.kind, str o.r.text, o.cv]] w S fun u A => StepR b (K + 4) (all.length + 1) u A := by
  refine Tri.enter (l := [ptr b 0, .agg #[i64 o.k, i64 o.r.kind, str o.r.text, o.cv]]) Try.func28 rfl Try.ntmps28 rfl [(0, ptr b 0), (1, .agg #[i64 o.k, i64 o.r.kind, str o.r.text, o.cv])] (subA rfl) hS ?_
  have hal := numd_len all 1
  have hcv := ho.cuts.row_one
  have htl := ho.tl
  (first | refine WL.slOwn (v := av) (by repeat constructor) ?_ | refine WC.slOwn (v := av) (by repeat constructor) ?_)
  intro hc_av ho_av
  (first | refine WL.slOwn (v := uv) (by repeat constructor) ?_ | refine WC.slOwn (v := uv) (by repeat constructor) ?_)
  intro hc_uv ho_uv
  by_cases hk1 : o.k = 1
  · repeat first
      | refine WC.seq ?_ | refine WC.region ?_
    try refine WL.wanted rfl rfl rfl ?_
    (apply WL.box; exact rfl; exact rfl; exact rfl; intro ob)
    repeat first
      | (apply WL.q; exact rfl; exact rfl; exact rfl; (first | (apply EvW.assign; exact rfl) | (apply EvW.fieldAddr0; exact rfl; exact FldC.eq) | (apply EvW.load; exact rfl; exact ScalC.eq; (focus ((repeat constructor); done)); exact rfl) | (apply EvW.cmpT; exact rfl; exact rfl; exact rfl; omega)))
      | refine WC.seq ?_ | refine WC.region ?_ | refine WL.nil ?_ | refine WE.next ?_ | refine WC.block ?_ | refine WC.condT rfl ?_
    repeat refine WC.seq ?_
    refine WC.keep (xs := [.blk ob #[i64 (o).k, i64 (o).r.kind, str (o).r.text, (o).cv] 50, .blk b #[ptr mb 0, ptr jb 0, av, uv] 80, .own 34 3 (av) (numd 1 all).length ((numd 1 all).flatMap recC), .own 34 3 (uv) (numd (all.length + 1) []).length ((numd (all.length + 1) []).flatMap recC), upH jb mb K false all]) (by repeat constructor) ?_
    apply WC.par _ (fun c : Ch => [.blk ob #[i64 (o).k, i64 (o).r.kind, str (o).r.text, (o).cv] 50, .blk b #[ptr mb 0, ptr jb 0, av, uv] 80, .own 34 3 (av) (numd 1 all).length ((numd 1 all).flatMap recC), .own 34 3 (uv) (numd (all.length + 1) []).length ((numd (all.length + 1) []).flatMap recC), upH jb mb K false all, apH jb mb (K + 3) false all o.r ((c 8).2)]) [none, none, none, none, none, some 8] [none, none, none, none, some 8, none] [(8, fun x => x.2)] Try.mixed
    · (focus ((repeat (first | exact Restr.nil | (apply Restr.keep; exact rfl; exact rfl) | (apply Restr.drop; exact rfl))); done))
    · intro c; exact (by repeat constructor)
    · exact rfl
    · decide +kernel
    · decide +kernel
    · intro c
      (apply Par.quiet _ [true, true, true, true, true, false]; exact rfl; decide +kernel; exact rfl; intro R; refine ⟨_, (by repeat constructor), ?_⟩;
           (first | (apply EvW.move; exact rfl)))
      (apply Par.quiet _ [true, true, true, true, true, false]; exact rfl; decide +kernel; exact rfl; intro R; refine ⟨_, (by repeat constructor), ?_⟩;
           (first | (apply EvW.nilPtr; exact rfl)))
      (apply Par.quiet _ [true, true, true, true, true, false]; exact rfl; decide +kernel; exact rfl; intro R; refine ⟨_, (by repeat constructor), ?_⟩;
           (first | (apply EvW.fieldAddr0; exact rfl; exact FldC.eq)))
      (apply Par.quiet _ [true, true, true, true, true, false]; exact rfl; decide +kernel; exact rfl; intro R; refine ⟨_, (by repeat constructor), ?_⟩;
           (first | (apply EvW.load; exact rfl; exact ScalC.eq; (focus ((repeat constructor); done)); exact rfl)))
      (apply Par.quiet _ [true, true, true, true, true, false]; exact rfl; decide +kernel; exact rfl; intro R; refine ⟨_, (by repeat constructor), ?_⟩;
           (first | (apply EvW.fieldAddr0; exact rfl; exact FldC.eq)))
      (apply Par.quiet _ [true, true, true, true, true, false]; exact rfl; decide +kernel; exact rfl; intro R; refine ⟨_, (by repeat constructor), ?_⟩;
           (first | (apply EvW.load; exact rfl; exact ScalC.eq; (focus ((repeat constructor); done)); exact rfl)))
      (apply Par.quiet _ [true, true, true, true, true, false]; exact rfl; decide +kernel; exact rfl; intro R; refine ⟨_, (by repeat constructor), ?_⟩;
           (first | (apply EvW.fieldAddr0; exact rfl; exact FldC.eq)))
      (apply Par.quiet _ [true, true, true, true, true, false]; exact rfl; decide +kernel; exact rfl; intro R; refine ⟨_, (by repeat constructor), ?_⟩;
           (first | (apply EvW.load; exact rfl; exact ScalC.eq; (focus ((repeat constructor); done)); exact rfl)))
      apply Par.new _ [false, false, false, false, true, false] [false, false, false, false, false, true] [true, true, true, true, false, false]
      · exact rfl
      · exact rfl
      · decide +kernel
      · intro R
        refine ⟨_, _, _, (by repeat constructor), (by repeat constructor), (fun x => (by repeat constructor)), ?_⟩
        apply NewW.callA ([upH jb mb K false all]) (fun x => [apH jb mb (K + 3) false all o.r x.2])
        · exact rfl
        · exact fun w => Try.call13 _ w
        · (focus ((repeat constructor); done))
        · exact fun w1 S1 hS1 hs1 ho1 => append8p jb mb K false all o.r w1 S1 hS1 (by omega) (by omega) htl
        · rintro _ _ ⟨e, rfl, rfl⟩; exact ⟨(0, i64 e), rfl, rfl⟩
        · exact fun x _ h => TakeT.st (by (focus ((repeat (first | exact TakeT.tail | apply TakeT.cons | exact Take.head | apply Take.tail | apply TakeT.drop)); done))) h
      (apply Par.quiet _ [true, true, true, true, false, true]; exact rfl; decide +kernel; exact rfl; intro R; refine ⟨_, (by repeat constructor), ?_⟩;
           (first | (apply EvW.assign; exact rfl)))
      exact Par.nil
    · repeat (first | exact AllN.nil | (apply AllN.cons; (intro c x; (repeat (first | exact IndA.nil | (apply IndA.skip; decide +kernel) | apply IndA.same))))) 
    · repeat (first | exact AllN.nil | (apply AllN.cons; (intro c x; (repeat (first | exact IndT.nil | (apply IndT.skip; decide +kernel) | apply IndT.same))))) 
    · exact fun _ => rfl
    intro c
    refine ⟨_, (by repeat constructor), ?_⟩
    apply WE.writ
    · (focus ((repeat (first | exact Writ.nil | apply Writ.some | apply Writ.none)); done))
    generalize (c 8).2 = ev
    repeat first
      | (apply WL.q; exact rfl; exact rfl; exact rfl; (first | (apply EvW.fieldAddr0; exact rfl; exact FldC.eq) | (apply EvW.load; exact rfl; exact ScalC.eq; (focus ((repeat constructor); done)); exact rfl)))
      | refine WC.seq ?_ | refine WC.region ?_ | refine WE.next ?_
    try refine WL.wanted rfl rfl rfl ?_
    apply WL.callA ([])
    · exact rfl
    · exact rfl
    · exact fun w => Try.call51 _ w
    · (focus ((repeat constructor); done))
    · exact fun w1 S1 hS1 hs1 ho1 => jright_spec o.r w1 S1 hS1 htl
    rintro _ _ ⟨rfl, rfl⟩
    first | refine WL.app4 ?_ | refine WL.app3 ?_ | refine WL.app2 ?_ | refine WL.app1 ?_ | refine WL.app0 ?_ | skip
    repeat first
      | (apply WL.q; exact rfl; exact rfl; exact rfl; (first | (apply EvW.assign; exact rfl)))
      | refine WC.seq ?_ | refine WL.nil ?_ | refine WE.next ?_
    repeat refine WC.seq ?_
    refine WC.keep (xs := [.blk ob #[i64 (o).k, i64 (o).r.kind, str (o).r.text, (o).cv] 50, .blk b #[ptr mb 0, ptr jb 0, av, uv] 80, .own 34 3 (av) (numd 1 all).length ((numd 1 all).flatMap recC), .own 34 3 (uv) (numd (all.length + 1) []).length ((numd (all.length + 1) []).flatMap recC), apH jb mb (K + 3) false all o.r ev]) (by repeat constructor) ?_
    apply WC.par _ (fun c : Ch => [.blk ob #[i64 (o).k, i64 (o).r.kind, str (o).r.text, (o).cv] 50, .blk b #[ptr mb 0, ptr jb 0, av, uv] 80, .own 34 3 (av) (numd 1 all).length ((numd 1 all).flatMap recC), .own 34 3 (uv) (numd (all.length + 1) []).length ((numd (all.length + 1) []).flatMap recC), apH jb mb (K + 3) false all o.r ev, .blk (c 11).1 #[i64 0, i64 0, str []] 34, .blk (c 11).1 #[i64 (((numd 1 all).length : Int) + 1), i64 (o.r).kind, str (o.r).text] 34]) [none, none, none, none, none, some 11, some 12] [none, none, none, none, none, some 12, none] [(11, fun x => ptr x.1 0)] Try.mixed
    · (focus ((repeat (first | exact Restr.nil | (apply Restr.keep; exact rfl; exact rfl) | (apply Restr.drop; exact rfl))); done))
    · intro c; exact (by repeat constructor)
    · exact rfl
    · decide +kernel
    · decide +kernel
    · intro c
      (apply Par.quiet _ [true, true, true, true, true, false, false]; exact rfl; decide +kernel; exact rfl; intro R; refine ⟨_, (by repeat constructor), ?_⟩;
           (first | (apply EvW.move; exact rfl)))
      (apply Par.quiet _ [true, true, true, true, true, false, false]; exact rfl; decide +kernel; exact rfl; intro R; refine ⟨_, (by repeat constructor), ?_⟩;
           (first | (apply EvW.nilPtr; exact rfl)))
      (apply Par.quiet _ [true, true, true, true, true, false, false]; exact rfl; decide +kernel; exact rfl; intro R; refine ⟨_, (by repeat constructor), ?_⟩;
           (first | (apply EvW.fieldAddr0; exact rfl; exact FldC.eq)))
      (apply Par.quiet _ [true, true, true, true, true, false, false]; exact rfl; decide +kernel; exact rfl; intro R; refine ⟨_, (by repeat constructor), ?_⟩;
           (first | (apply EvW.load; exact rfl; exact ScalC.eq; (focus ((repeat constructor); done)); exact rfl)))
      (apply Par.quiet _ [true, true, true, true, true, false, false]; exact rfl; decide +kernel; exact rfl; intro R; refine ⟨_, (by repeat constructor), ?_⟩;
           (first | (apply EvW.lenOwn; exact rfl; exact UndC.eq; (focus ((repeat constructor); done)))))
      (apply Par.quiet _ [true, true, true, true, true, false, false]; exact rfl; decide +kernel; exact rfl; intro R; refine ⟨_, (by repeat constructor), ?_⟩;
           (first | (apply EvW.arN; exact rfl; exact rfl; exact rfl; refine i64_in ?_ ?_ <;> omega)))
      (apply Par.quiet _ [true, true, true, true, true, false, false]; exact rfl; decide +kernel; exact rfl; intro R; refine ⟨_, (by repeat constructor), ?_⟩;
           (first | (apply EvW.fieldAddr0; exact rfl; exact FldC.eq)))
      (apply Par.quiet _ [true, true, true, true, true, false, false]; exact rfl; decide +kernel; exact rfl; intro R; refine ⟨_, (by repeat constructor), ?_⟩;
           (first | (apply EvW.load; exact rfl; exact ScalC.eq; (focus ((repeat constructor); done)); exact rfl)))
      (apply Par.quiet _ [true, true, true, true, true, false, false]; exact rfl; decide +kernel; exact rfl; intro R; refine ⟨_, (by repeat constructor), ?_⟩;
           (first | (apply EvW.fieldAddr0; exact rfl; exact FldC.eq)))
      (apply Par.quiet _ [true, true, true, true, true, false, false]; exact rfl; decide +kernel; exact rfl; intro R; refine ⟨_, (by repeat constructor), ?_⟩;
           (first | (apply EvW.load; exact rfl; exact ScalC.eq; (focus ((repeat constructor); done)); exact rfl)))
      (apply Par.quiet _ [true, true, true, true, true, false, false]; exact rfl; decide +kernel; exact rfl; intro R; refine ⟨_, (by repeat constructor), ?_⟩;
           (first | (apply EvW.build; exact PlC.eq; exact ZvC.eq; exact rfl; exact rfl; (focus ((repeat (first | exact Fills.nil | (apply Fills.cons; exact rfl; (first | assumption | exact rfl); exact rfl) | exact SetMany.nil | apply SetMany.cons | apply SetMany.succ)); done)))))
      (apply Par.new _ [false, false, false, false, false, false, false] [false, false, false, false, false, true, false] [true, true, true, true, true, false, false]; exact rfl; exact rfl; decide +kernel; intro R; refine ⟨_, _, _, (by repeat constructor), (by repeat constructor), (fun x => (by repeat constructor)), ?_⟩; (apply NewW.alloc; exact ZvC.eq; exact rfl; exact fun _ => rfl))
      (apply Par.eff _ [false, false, false, false, false, true, false] [false, false, false, false, false, false, true] [true, true, true, true, true, false, false]; exact rfl; exact rfl; decide +kernel; intro R; refine ⟨_, _, _, (by repeat constructor), (by repeat constructor), (by repeat constructor), ?_⟩; (apply EffW.store; exact rfl; exact rfl; (first | assumption | exact rfl); exact SzC.eq; (first | assumption | exact rfl); (focus ((repeat constructor); done))))
      exact Par.nil
    · repeat (first | exact AllN.nil | (apply AllN.cons; (intro c x; (repeat (first | exact IndA.nil | (apply IndA.skip; decide +kernel) | apply IndA.same))))) 
    · repeat (first | exact AllN.nil | (apply AllN.cons; (intro c x; (repeat (first | exact IndT.nil | (apply IndT.skip; decide +kernel) | apply IndT.same))))) 
    · exact fun _ => rfl
    intro c
    refine ⟨_, (by repeat constructor), ?_⟩
    apply WE.writ
    · (focus ((repeat (first | exact Writ.nil | apply Writ.some | apply Writ.none)); done))
    generalize (c 11).1 = b11
    refine WE.next ?_
    refine WC.openAp (by repeat constructor) (fun hr he => ?_) (fun hr he => ?_) (fun hr he => ?_)
    · subst he
      generalize rightF o.r = e at hr
      repeat first
        | (apply WL.q; exact rfl; exact rfl; exact rfl; (first | (apply EvW.move; exact rfl) | (apply EvW.assign; exact rfl) | (apply EvW.cmpT; exact rfl; exact rfl; exact rfl; omega)))
        | refine WC.seq ?_ | refine WC.region ?_ | refine WL.nil ?_ | refine WE.next ?_ | refine WC.condT rfl ?_ | refine WC.ret ?_ | refine WE.passRet ?_ | refine WE.outRet ?_
      refine WE.keep (xs := [upH jb mb (K + 3) false all, .blk b #[ptr mb 0, ptr jb 0, av, uv] 80, .own 34 3 (av) (numd 1 all).length ((numd 1 all).flatMap recC), .own 34 3 (uv) (numd (all.length + 1) []).length ((numd (all.length + 1) []).flatMap recC)]) (by repeat constructor) ?_
      refine WE.stUp (K' := K + 4) (und := []) (by omega) .head ?_
      refine WE.keep (xs := [.blk b #[ptr mb 0, ptr jb 0, av, uv] 80, stH jb mb (K + 4) all [] false, .own 34 3 (av) (numd 1 all).length ((numd 1 all).flatMap recC), .own 34 3 (uv) (numd (all.length + 1) []).length ((numd (all.length + 1) []).flatMap recC)]) (by repeat constructor) ?_
      refine WE.ret1 rfl rfl ?_
      exact ⟨mb, jb, av, uv, all, [], false, rfl, rfl, by omega, by decide, fun _ => rfl⟩
    · subst he
      rw [hr]
      have hnum : numN (all ++ [o.r]) = (all.length : Int) + 1 + 1 := by unfold numN; rw [List.length_append]; rfl
      have hM : numd 1 (all ++ [o.r]) = numd 1 all ++ [⟨all.length + 1, o.r.kind, o.r.text⟩] := by rw [numd_append, Nat.add_comm]; rfl
      repeat first
        | (apply WL.q; exact rfl; exact rfl; exact rfl; (first | (apply EvW.move; exact rfl) | (apply EvW.cmpT; exact rfl; exact rfl; exact rfl; omega) | (apply EvW.cmpF; exact rfl; exact rfl; exact rfl; omega)))
        | refine WC.seq ?_ | refine WC.region ?_ | refine WL.nil ?_ | refine WE.next ?_ | refine WC.skip ?_ | refine WC.condT rfl ?_ | refine WC.condF rfl ?_
      repeat refine WC.seq ?_
      refine WC.keep (xs := [.blk b #[ptr mb 0, ptr jb 0, av, uv] 80, .own 34 3 (av) (numd 1 all).length ((numd 1 all).flatMap recC), .own 34 3 (uv) (numd (all.length + 1) []).length ((numd (all.length + 1) []).flatMap recC), .blk ob #[i64 (o).k, i64 (o).r.kind, str (o).r.text, (o).cv] 50, .blk b11 #[i64 (((numd 1 all).length : Int) + 1), i64 (o.r).kind, str (o.r).text] 34, upH jb mb (K + 3) false (all ++ [o.r])]) (by repeat constructor) ?_
      apply WC.par _ (fun c : Ch => [.blk b #[ptr mb 0, ptr jb 0, av, uv] 80, .blk b #[ptr mb 0, ptr jb 0, (c 9).2, uv] 80, .own 34 3 (av) (numd 1 all).length ((numd 1 all).flatMap recC), .own 34 3 (uv) (numd (all.length + 1) []).length ((numd (all.length + 1) []).flatMap recC), .blk ob #[i64 (o).k, i64 (o).r.kind, str (o).r.text, (o).cv] 50, .blk b11 #[i64 (((numd 1 all).length : Int) + 1), i64 (o.r).kind, str (o.r).text] 34, upH jb mb (K + 3) false (all ++ [o.r]), .own 34 3 (.slice (some ⟨(c 1).1, 0, none⟩) 0 0) 0 [], .own 34 3 ((c 6).2) (0 + (numd 1 all).length) ([] ++ (numd 1 all).flatMap recC), .blk (c 8).1 #[i64 (((numd 1 all).length : Int) + 1), i64 o.r.kind, str o.r.text] 34, .own 34 3 ((c 9).2) (0 + (numd 1 all).length + 1) ([] ++ (numd 1 all).flatMap recC ++ [i64 (((numd 1 all).length : Int) + 1), i64 o.r.kind, str o.r.text])]) [none, some 12, none, none, none, none, none, some 1, some 6, some 8, some 9] [some 12, none, none, none, none, none, none, some 6, some 9, none, none] [(1, fun x => .slice (some ⟨x.1, 0, none⟩) 0 0), (6, fun x => x.2), (8, fun x => .slice (some ⟨x.1, 0, none⟩) 1 1), (9, fun x => x.2)] Try.mixed
      · (focus ((repeat (first | exact Restr.nil | (apply Restr.keep; exact rfl; exact rfl) | (apply Restr.drop; exact rfl))); done))
      · intro c; exact (by repeat constructor)
      · exact rfl
      · decide +kernel
      · decide +kernel
      · intro c
        (apply Par.quiet _ [true, false, true, true, true, true, true, false, false, false, false]; exact rfl; decide +kernel; exact rfl; intro R; refine ⟨_, (by repeat constructor), ?_⟩;
             (first | (apply EvW.move; exact rfl)))
        apply Par.new _ [false, false, false, false, false, false, false, false, false, false, false] [false, false, false, false, false, false, false, true, false, false, false] [true, false, true, true, true, true, true, false, false, false, false]
        · exact rfl
        · exact rfl
        · decide +kernel
        · intro R
          refine ⟨_, _, _, (by repeat constructor), (by repeat constructor), (fun x => (by repeat constructor)), ?_⟩
          (refine NewW.conv8 ?_ (fun _ _ hs => St.zero8 hs); (apply NewW.buildSlice; exact UndC.eq; exact SzC.eq; exact ZvC.eq; exact rfl; exact rfl; exact rfl; exact Flat.nil; exact rfl; exact rfl; exact fun _ => rfl))
        (apply Par.quiet _ [true, false, true, true, true, true, true, false, false, false, false]; exact rfl; decide +kernel; exact rfl; intro R; refine ⟨_, (by repeat constructor), ?_⟩;
             (first | (apply EvW.move; exact rfl)))
        (apply Par.quiet _ [true, false, true, true, true, true, true, false, false, false, false]; exact rfl; decide +kernel; exact rfl; intro R; refine ⟨_, (by repeat constructor), ?_⟩;
             (first | (apply EvW.nilPtr; exact rfl)))
        (apply Par.quiet _ [true, false, true, true, true, true, true, false, false, false, false]; exact rfl; decide +kernel; exact rfl; intro R; refine ⟨_, (by repeat constructor), ?_⟩;
             (first | (apply EvW.fieldAddr0; exact rfl; exact FldC.eq)))
        (apply Par.quiet _ [true, false, true, true, true, true, true, false, false, false, false]; exact rfl; decide +kernel; exact rfl; intro R; refine ⟨_, (by repeat constructor), ?_⟩;
             (first | (apply EvW.load; exact rfl; exact ScalC.eq; (focus ((repeat constructor); done)); exact rfl)))
        apply Par.new _ [false, false, false, false, false, false, false, true, false, false, false] [false, false, false, false, false, false, false, false, true, false, false] [true, false, true, true, true, true, true, false, false, false, false]
        · exact rfl
        · exact rfl
        · decide +kernel
        · intro R
          refine ⟨_, _, _, (by repeat constructor), (by repeat constructor), (fun x => (by repeat constructor)), ?_⟩
          (apply NewW.append; exact rfl; exact rfl; exact UndC.eq; exact SzC.eq; exact ByC.eq; exact ZvC.eq; exact rfl; (first | exact notInt_sl UndC.eq | exact notInt_st UndC.eq); exact rfl; (focus ((repeat constructor); done)))
          · exact adds_own (by repeat constructor) (flat_recN _) (all_recN _)
          · (omega)
          · exact fun _ _ h => TakeT.st (by (focus ((repeat (first | exact TakeT.tail | apply TakeT.cons | exact Take.head | apply Take.tail | apply TakeT.drop)); done))) h
        (apply Par.quiet _ [true, false, true, true, true, true, true, false, false, false, false]; exact rfl; decide +kernel; exact rfl; intro R; refine ⟨_, (by repeat constructor), ?_⟩;
             (first | (apply EvW.loadAgg; exact rfl; exact AggC.eq; exact SzC.eq; (focus ((repeat constructor); done)); (focus ((repeat (first | exact SubL.nil | apply SubL.cons | apply SubL.succ)); done)))))
        (apply Par.new _ [false, false, false, false, false, false, false, false, false, false, false] [false, false, false, false, false, false, false, false, false, true, false] [true, false, true, true, true, true, true, false, false, false, false]; exact rfl; exact rfl; decide +kernel; intro R; refine ⟨_, _, _, (by repeat constructor), (by repeat constructor), (fun x => (by repeat constructor)), ?_⟩; (apply NewW.buildSlice; exact UndC.eq; exact SzC.eq; exact ZvC.eq; exact rfl; exact rfl; exact rfl; (focus ((repeat (first | exact Flat.nil | (apply Flat.one; (first | exact rfl | assumption)) | (apply Flat.cons; exact rfl; exact rfl))); done)); exact rfl; exact rfl; exact fun _ => rfl))
        apply Par.new _ [false, false, false, false, false, false, false, false, true, false, false] [false, false, false, false, false, false, false, false, false, false, true] [true, false, true, true, true, true, true, false, false, true, false]
        · exact rfl
        · exact rfl
        · decide +kernel
        · intro R
          refine ⟨_, _, _, (by repeat constructor), (by repeat constructor), (fun x => (by repeat constructor)), ?_⟩
          (apply NewW.append; exact rfl; exact rfl; exact UndC.eq; exact SzC.eq; exact ByC.eq; exact ZvC.eq; exact rfl; (first | exact notInt_sl UndC.eq | exact notInt_st UndC.eq); exact rfl; (focus ((repeat constructor); done)))
          · exact adds_blk (by repeat constructor) rfl rfl
          · (omega)
          · exact fun _ _ h => TakeT.st (by (focus ((repeat (first | exact TakeT.tail | apply TakeT.cons | exact Take.head | apply Take.tail | apply TakeT.drop)); done))) h
        (apply Par.quiet _ [true, false, true, true, true, true, true, false, false, true, true]; exact rfl; decide +kernel; exact rfl; intro R; refine ⟨_, (by repeat constructor), ?_⟩;
             (first | (apply EvW.nilPtr; exact rfl)))
        (apply Par.quiet _ [true, false, true, true, true, true, true, false, false, true, true]; exact rfl; decide +kernel; exact rfl; intro R; refine ⟨_, (by repeat constructor), ?_⟩;
             (first | (apply EvW.fieldAddr0; exact rfl; exact FldC.eq)))
        apply Par.eff _ [true, false, false, false, false, false, false, false, false, false, false] [false, true, false, false, false, false, false, false, false, false, false] [false, false, true, true, true, true, true, false, false, true, true]
        · exact rfl
        · exact rfl
        · decide +kernel
        · intro R
          refine ⟨_, _, _, (by repeat constructor), (by repeat constructor), (by repeat constructor), ?_⟩
          (apply EffW.storeSl; exact rfl; exact rfl; (focus ((repeat constructor); done)); exact SzC.eq; (focus ((repeat constructor); done)))
        exact Par.nil
      · repeat (first | exact AllN.nil | (apply AllN.cons; (intro c x; (repeat (first | exact IndA.nil | (apply IndA.skip; decide +kernel) | apply IndA.same))))) 
      · repeat (first | exact AllN.nil | (apply AllN.cons; (intro c x; (repeat (first | exact IndT.nil | (apply IndT.skip; decide +kernel) | apply IndT.same))))) 
      · exact fun _ => rfl
      intro c
      refine ⟨_, (by repeat constructor), ?_⟩
      apply WE.writ
      · (focus ((repeat (first | exact Writ.nil | apply Writ.some | apply Writ.none)); done))
      generalize (c 1).1 = b1
      generalize (c 8).1 = b8
      have eO : HP.own 34 3 (c 9).2 (0 + (numd 1 all).length + 1) ([] ++ (numd 1 all).flatMap recC ++ [i64 (((numd 1 all).length : Int) + 1), i64 o.r.kind, str o.r.text]) = .own 34 3 ((c 9).2) (numd 1 (all ++ [o.r])).length ((numd 1 (all ++ [o.r])).flatMap recC) := by
        rw [hM, List.length_append, List.flatMap_append, Nat.zero_add, hal]; rfl
      rw [eO]
      generalize (c 9).2 = av2
      repeat first
        | refine WC.seq ?_ | refine WE.next ?_
      repeat refine WC.seq ?_
      refine WC.keep (xs := [.blk b #[ptr mb 0, ptr jb 0, av2, uv] 80, .own 34 3 (av2) (numd 1 (all ++ [o.r])).length ((numd 1 (all ++ [o.r])).flatMap recC), .own 34 3 (av) (numd 1 all).length ((numd 1 all).flatMap recC), .own 34 3 (uv) (numd (all.length + 1) []).length ((numd (all.length + 1) []).flatMap recC), .blk ob #[i64 (o).k, i64 (o).r.kind, str (o).r.text, (o).cv] 50, .blk b11 #[i64 (((numd 1 all).length : Int) + 1), i64 (o.r).kind, str (o.r).text] 34, upH jb mb (K + 3) false (all ++ [o.r])]) (by repeat constructor) ?_
      apply WC.par _ (fun c : Ch => [.blk b #[ptr mb 0, ptr jb 0, av2, uv] 80, .own 34 3 (av2) (numd 1 (all ++ [o.r])).length ((numd 1 (all ++ [o.r])).flatMap recC), .own 34 3 (av) (numd 1 all).length ((numd 1 all).flatMap recC), .own 34 3 (uv) (numd (all.length + 1) []).length ((numd (all.length + 1) []).flatMap recC), .blk ob #[i64 (o).k, i64 (o).r.kind, str (o).r.text, (o).cv] 50, .blk b11 #[i64 (((numd 1 all).length : Int) + 1), i64 (o.r).kind, str (o.r).text] 34, upH jb mb (K + 3) false (all ++ [o.r]), upH jb mb (K + 3) false (all ++ [o.r]), upH jb mb (K + 3) false (all ++ [o.r])]) [none, none, none, none, none, none, none, some 6, some 12] [none, none, none, none, none, none, some 6, some 12, none] [] Try.mixed
      · (focus ((repeat (first | exact Restr.nil | (apply Restr.keep; exact rfl; exact rfl) | (apply Restr.drop; exact rfl))); done))
      · intro c; exact (by repeat constructor)
      · exact rfl
      · decide +kernel
      · decide +kernel
      · intro c
        (apply Par.quiet _ [true, true, true, true, true, true, true, false, false]; exact rfl; decide +kernel; exact rfl; intro R; refine ⟨_, (by repeat constructor), ?_⟩;
             (first | (apply EvW.move; exact rfl)))
        (apply Par.quiet _ [true, true, true, true, true, true, true, false, false]; exact rfl; decide +kernel; exact rfl; intro R; refine ⟨_, (by repeat constructor), ?_⟩;
             (first | (apply EvW.nilPtr; exact rfl)))
        (apply Par.quiet _ [true, true, true, true, true, true, true, false, false]; exact rfl; decide +kernel; exact rfl; intro R; refine ⟨_, (by repeat constructor), ?_⟩;
             (first | (apply EvW.fieldAddr0; exact rfl; exact FldC.eq)))
        (apply Par.quiet _ [true, true, true, true, true, true, true, false, false]; exact rfl; decide +kernel; exact rfl; intro R; refine ⟨_, (by repeat constructor), ?_⟩;
             (first | (apply EvW.load; exact rfl; exact ScalC.eq; (focus ((repeat constructor); done)); exact rfl)))
        (apply Par.quiet _ [true, true, true, true, true, true, true, false, false]; exact rfl; decide +kernel; exact rfl; intro R; refine ⟨_, (by repeat constructor), ?_⟩;
             (first | (apply EvW.nilPtr; exact rfl)))
        (apply Par.quiet _ [true, true, true, true, true, true, true, false, false]; exact rfl; decide +kernel; exact rfl; intro R; refine ⟨_, (by repeat constructor), ?_⟩;
             (first | (apply EvW.fieldAddr0; exact rfl; exact FldC.eq)))
        apply Par.eff _ [false, false, false, false, false, false, true, false, false] [false, false, false, false, false, false, false, true, false] [true, true, true, true, true, true, false, false, false]
        · exact rfl
        · exact rfl
        · decide +kernel
        · intro R
          refine ⟨_, _, _, (by repeat constructor), (by repeat constructor), (by repeat constructor), ?_⟩
          apply EffW.callA ([upH jb mb (K + 3) false (all ++ [o.r])])
          · exact rfl
          · exact fun w => Try.call18 _ w
          · (focus ((repeat constructor); done))
          · exact fun w1 S1 hS1 hs1 ho1 => down_up jb mb (K + 3) false (all ++ [o.r]) w1 S1 hS1
          · exact fun _ _ h => h
          · exact fun _ h => TakeT.st (by (focus ((repeat (first | exact TakeT.tail | apply TakeT.cons | exact Take.head | apply Take.tail | apply TakeT.drop)); done))) h
        (apply Par.quiet _ [true, true, true, true, true, true, false, true, false]; exact rfl; decide +kernel; exact rfl; intro R; refine ⟨_, (by repeat constructor), ?_⟩;
             (first | (apply EvW.move; exact rfl)))
        first
          | (apply Par.skip; exact rfl; decide +kernel; exact rfl)
          | (apply Par.quiet _ [true, true, true, true, true, true, false, true, false]; exact rfl; decide +kernel; exact rfl; intro R; refine ⟨_, (by repeat constructor), ?_⟩;
             (first | (apply EvW.move; exact rfl)))
        first
          | (apply Par.skip; exact rfl; decide +kernel; exact rfl)
          | (apply Par.quiet _ [true, true, true, true, true, true, false, true, false]; exact rfl; decide +kernel; exact rfl; intro R; refine ⟨_, (by repeat constructor), ?_⟩;
             (first | (apply EvW.nilPtr; exact rfl)))
        first
          | (apply Par.skip; exact rfl; decide +kernel; exact rfl)
          | (apply Par.quiet _ [true, true, true, true, true, true, false, true, false]; exact rfl; decide +kernel; exact rfl; intro R; refine ⟨_, (by repeat constructor), ?_⟩;
             (first | (apply EvW.fieldAddr0; exact rfl; exact FldC.eq)))
        first
          | (apply Par.skip; exact rfl; decide +kernel; exact rfl)
          | (apply Par.quiet _ [true, true, true, true, true, true, false, true, false]; exact rfl; decide +kernel; exact rfl; intro R; refine ⟨_, (by repeat constructor), ?_⟩;
             (first | (apply EvW.load; exact rfl; exact ScalC.eq; (focus ((repeat constructor); done)); exact rfl)))
        apply Par.eff _ [false, false, false, false, false, false, false, true, false] [false, false, false, false, false, false, false, false, true] [true, true, true, true, true, true, false, false, false]
        · exact rfl
        · exact rfl
        · decide +kernel
        · intro R
          refine ⟨_, _, _, (by repeat constructor), (by repeat constructor), (by repeat constructor), ?_⟩
          apply EffW.callA ([upH jb mb (K + 3) false (all ++ [o.r])])
          · exact rfl
          · exact fun w => Try.call12 _ w
          · (focus ((repeat constructor); done))
          · exact fun w1 S1 hS1 hs1 ho1 => (by have h := next_up jb mb (K + 3) false (all ++ [o.r]) w1 S1 hS1; rw [hnum] at h; exact h)
          · exact fun _ _ h => h
          · exact fun _ h => TakeT.st (by (focus ((repeat (first | exact TakeT.tail | apply TakeT.cons | exact Take.head | apply Take.tail | apply TakeT.drop)); done))) h
        first
          | (apply Par.skip; exact rfl; decide +kernel; exact rfl)
          | (apply Par.quiet _ [true, true, true, true, true, true, false, false, false]; exact rfl; decide +kernel; exact rfl; intro R; refine ⟨_, (by repeat constructor), ?_⟩;
             (first | (apply EvW.fieldAddr0; exact rfl; exact FldC.eq)))
        first
          | (apply Par.skip; exact rfl; decide +kernel; exact rfl)
          | (apply Par.quiet _ [true, true, true, true, true, true, false, false, false]; exact rfl; decide +kernel; exact rfl; intro R; refine ⟨_, (by repeat constructor), ?_⟩;
             (first | (apply EvW.load; exact rfl; exact ScalC.eq; (focus ((repeat constructor); done)); exact rfl)))
        first
          | (apply Par.skip; exact rfl; decide +kernel; exact rfl)
          | (apply Par.quiet _ [true, true, true, true, true, true, false, false, false]; exact rfl; decide +kernel; exact rfl; intro R; refine ⟨_, (by repeat constructor), ?_⟩;
             (first | (apply EvW.arN; exact rfl; exact rfl; exact rfl; refine i64_in ?_ ?_ <;> omega)))
        first
          | (apply Par.skip; exact rfl; decide +kernel; exact rfl)
          | (apply Par.quiet _ [true, true, true, true, true, true, false, false, true]; exact rfl; decide +kernel; exact rfl; intro R; refine ⟨_, (by repeat constructor), ?_⟩;
             (first | (apply EvW.cmpT; exact rfl; exact rfl; exact rfl; omega)))
        (apply Par.quiet _ [true, true, true, true, true, true, false, false, true]; exact rfl; decide +kernel; exact rfl; intro R; refine ⟨_, (by repeat constructor), ?_⟩;
             (first | (apply EvW.pickF; exact rfl; exact rfl)))
        (apply Par.quiet _ [true, true, true, true, true, true, false, false, true]; exact rfl; decide +kernel; exact rfl; intro R; refine ⟨_, (by repeat constructor), ?_⟩;
             (first | (apply EvW.assign; exact rfl)))
        exact Par.nil
      · repeat (first | exact AllN.nil | (apply AllN.cons; (intro c x; (repeat (first | exact IndA.nil | (apply IndA.skip; decide +kernel) | apply IndA.same))))) 
      · repeat (first | exact AllN.nil | (apply AllN.cons; (intro c x; (repeat (first | exact IndT.nil | (apply IndT.skip; decide +kernel) | apply IndT.same))))) 
      · exact fun _ => rfl
      intro c
      refine ⟨_, (by repeat constructor), ?_⟩
      apply WE.writ
      · (focus ((repeat (first | exact Writ.nil | apply Writ.some | apply Writ.none)); done))
      repeat first
        | refine WE.next ?_ | refine WC.ret ?_ | refine WE.passRet ?_ | refine WE.outRet ?_
      refine WE.keep (xs := [upH jb mb (K + 3) false (all ++ [o.r]), .blk b #[ptr mb 0, ptr jb 0, av2, uv] 80, .own 34 3 (av2) (numd 1 (all ++ [o.r])).length ((numd 1 (all ++ [o.r])).flatMap recC), .own 34 3 (uv) (numd (all.length + 1) []).length ((numd (all.length + 1) []).flatMap recC)]) (by repeat constructor) ?_
      refine WE.stUp (K' := K + 4) (und := []) (by omega) .head ?_
      refine WE.keep (xs := [.blk b #[ptr mb 0, ptr jb 0, av2, uv] 80, stH jb mb (K + 4) (all ++ [o.r]) [] false, .own 34 3 (av2) (numd 1 (all ++ [o.r])).length ((numd 1 (all ++ [o.r])).flatMap recC), .own 34 3 (uv) (numd ((all ++ [o.r]).length + 1) []).length ((numd ((all ++ [o.r]).length + 1) []).flatMap recC)]) (by repeat constructor) ?_
      refine WE.ret1 rfl rfl ?_
      exact ⟨mb, jb, av2, uv, all ++ [o.r], [], false, rfl, rfl, by (rw [List.length_append]; exact Nat.le_refl _), by decide, fun _ => rfl⟩
    · subst he
      rw [hr]
      repeat first
        | (apply WL.q; exact rfl; exact rfl; exact rfl; (first | (apply EvW.move; exact rfl) | (apply EvW.cmpF; exact rfl; exact rfl; exact rfl; omega) | (apply EvW.loadAgg; exact rfl; exact AggC.eq; exact SzC.eq; (focus ((repeat constructor); done)); (focus ((repeat (first | exact SubL.nil | apply SubL.cons | apply SubL.succ)); done)))))
        | refine WC.seq ?_ | refine WC.region ?_ | refine WL.nil ?_ | refine WE.next ?_ | refine WC.skip ?_ | refine WC.condF rfl ?_
      try refine WL.wanted rfl rfl rfl ?_
      (apply WL.buildSlice; exact rfl; exact UndC.eq; exact SzC.eq; exact ZvC.eq; exact rfl; exact rfl; exact rfl; ((focus ((repeat (first | exact Flat.nil | (apply Flat.one; (first | exact rfl | assumption)) | (apply Flat.cons; exact rfl; exact rfl))); done))); exact rfl; exact rfl; intro c1)
      refine WL.toOwn (bl := c1) 1 3 .head rfl ?_
      refine WL.ownEq (cs' := (numd (all.length + 1) [o.r]).flatMap recC) (len' := (numd (all.length + 1) [o.r]).length) .head rfl (by rw [hal]; rfl) ?_
      repeat first
        | (apply WL.q; exact rfl; exact rfl; exact rfl; (first | (apply EvW.move; exact rfl) | (apply EvW.nilPtr; exact rfl) | (apply EvW.fieldAddr0; exact rfl; exact FldC.eq) | (apply EvW.load; exact rfl; exact ScalC.eq; (focus ((repeat constructor); done)); exact rfl) | (apply EvW.cmpT; exact rfl; exact rfl; exact rfl; omega)))
        | refine WC.seq ?_ | refine WC.region ?_ | refine WL.nil ?_ | refine WE.next ?_ | refine WL.wanted rfl rfl rfl ?_ | (apply WL.store; exact rfl; exact rfl; (first | assumption | exact rfl); exact SzC.eq; (first | assumption | exact rfl); (focus ((repeat constructor); done)))
      try refine WL.wanted rfl rfl rfl ?_
      apply WL.callA ([dnH mb (K + 3) (fun x => x = all ∨ x = all ++ [o.r])])
      · exact rfl
      · exact rfl
      · exact fun w => Try.call18 _ w
      · (focus ((repeat constructor); done))
      · exact fun w1 S1 hS1 hs1 ho1 => down_dn mb (K + 3) (fun x => x = all ∨ x = all ++ [o.r]) w1 S1 hS1
      rintro _ _ ⟨rfl, rfl⟩
      first | refine WL.app4 ?_ | refine WL.app3 ?_ | refine WL.app2 ?_ | refine WL.app1 ?_ | refine WL.app0 ?_ | skip
      repeat first
        | (apply WL.q; exact rfl; exact rfl; exact rfl; (first | (apply EvW.move; exact rfl) | (apply EvW.nilPtr; exact rfl) | (apply EvW.fieldAddr0; exact rfl; exact FldC.eq) | (apply EvW.load; exact rfl; exact ScalC.eq; (focus ((repeat constructor); done)); exact rfl) | (apply EvW.pickT; exact rfl; exact rfl)))
        | refine WL.wanted rfl rfl rfl ?_
      try refine WL.wanted rfl rfl rfl ?_
      apply WL.callA ([jdH jb mb])
      · exact rfl
      · exact rfl
      · exact fun w => Try.call23 _ w
      · (focus ((repeat constructor); done))
      · exact fun w1 S1 hS1 hs1 ho1 => jdead_dn jb mb w1 S1 hS1
      rintro _ _ ⟨rfl, rfl⟩
      first | refine WL.app4 ?_ | refine WL.app3 ?_ | refine WL.app2 ?_ | refine WL.app1 ?_ | refine WL.app0 ?_ | skip
      repeat first
        | (apply WL.q; exact rfl; exact rfl; exact rfl; (first | (apply EvW.assign; exact rfl) | (apply EvW.pickT; exact rfl; exact rfl)))
        | refine WL.nil ?_ | refine WE.next ?_ | refine WC.ret ?_ | refine WE.passRet ?_ | refine WE.outRet ?_
      refine WE.conv (A' := [stH jb mb (K + 4) all [o.r] true, .blk b #[ptr mb 0, ptr jb 0, av, .slice (some ⟨c1, 0, none⟩) 1 1] 80, .own 34 3 (av) (numd 1 all).length ((numd 1 all).flatMap recC), .own 34 3 (.slice (some ⟨c1, 0, none⟩) 1 1) (numd (all.length + 1) [o.r]).length ((numd (all.length + 1) [o.r]).flatMap recC)]) (fun _ hs => ?_) ?_
      · have h2 : St w S [dnH mb (K + 3) (fun x => x = all ∨ x = all ++ [o.r]), .blk b #[ptr mb 0, ptr jb 0, av, .slice (some ⟨c1, 0, none⟩) 1 1] 80, .own 34 3 (av) (numd 1 all).length ((numd 1 all).flatMap recC), .own 34 3 (.slice (some ⟨c1, 0, none⟩) 1 1) (numd (all.length + 1) [o.r]).length ((numd (all.length + 1) [o.r]).flatMap recC)] _ := hs.keep (by repeat constructor)
        exact h2.mono fun S w h => dn_le h (by omega)
      refine WE.keep (xs := [.blk b #[ptr mb 0, ptr jb 0, av, .slice (some ⟨c1, 0, none⟩) 1 1] 80, stH jb mb (K + 4) all [o.r] true, .own 34 3 (av) (numd 1 all).length ((numd 1 all).flatMap recC), .own 34 3 (.slice (some ⟨c1, 0, none⟩) 1 1) (numd (all.length + 1) [o.r]).length ((numd (all.length + 1) [o.r]).flatMap recC)]) (by repeat constructor) ?_
      refine WE.ret1 rfl rfl ?_
      exact ⟨mb, jb, av, .slice (some ⟨c1, 0, none⟩) 1 1, all, [o.r], true, rfl, rfl, by omega, Nat.le_refl 1, fun h => by cases h⟩
  by_cases hk2 : o.k = 2
  · repeat first
      | refine WC.seq ?_ | refine WC.region ?_
    try refine WL.wanted rfl rfl rfl ?_
    (apply WL.box; exact rfl; exact rfl; exact rfl; intro ob)
    repeat first
      | (apply WL.q; exact rfl; exact rfl; exact rfl; (first | (apply EvW.assign; exact rfl) | (apply EvW.fieldAddr0; exact rfl; exact FldC.eq) | (apply EvW.load; exact rfl; exact ScalC.eq; (focus ((repeat constructor); done)); exact rfl) | (apply EvW.cmpT; exact rfl; exact rfl; exact rfl; omega) | (apply EvW.cmpF; exact rfl; exact rfl; exact rfl; omega)))
      | refine WC.seq ?_ | refine WC.region ?_ | refine WL.nil ?_ | refine WE.next ?_ | refine WC.block ?_ | refine WC.condT rfl ?_ | refine WC.condF rfl ?_
    repeat refine WC.seq ?_
    refine WC.keep (xs := [.blk ob #[i64 (o).k, i64 (o).r.kind, str (o).r.text, (o).cv] 50, .blk b #[ptr mb 0, ptr jb 0, av, uv] 80, .own 34 3 (av) (numd 1 all).length ((numd 1 all).flatMap recC), .own 34 3 (uv) (numd (all.length + 1) []).length ((numd (all.length + 1) []).flatMap recC), upH jb mb K false all]) (by repeat constructor) ?_
    apply WC.par _ (fun c : Ch => [.blk ob #[i64 (o).k, i64 (o).r.kind, str (o).r.text, (o).cv] 50, .blk b #[ptr mb 0, ptr jb 0, av, uv] 80, .own 34 3 (av) (numd 1 all).length ((numd 1 all).flatMap recC), .own 34 3 (uv) (numd (all.length + 1) []).length ((numd (all.length + 1) []).flatMap recC), upH jb mb K false all, upH jb mb K false all]) [none, none, none, none, none, some 8] [none, none, none, none, some 8, none] [] Try.mixed
    · (focus ((repeat (first | exact Restr.nil | (apply Restr.keep; exact rfl; exact rfl) | (apply Restr.drop; exact rfl))); done))
    · intro c; exact (by repeat constructor)
    · exact rfl
    · decide +kernel
    · decide +kernel
    · intro c
      (apply Par.quiet _ [true, true, true, true, true, false]; exact rfl; decide +kernel; exact rfl; intro R; refine ⟨_, (by repeat constructor), ?_⟩;
           (first | (apply EvW.move; exact rfl)))
      (apply Par.quiet _ [true, true, true, true, true, false]; exact rfl; decide +kernel; exact rfl; intro R; refine ⟨_, (by repeat constructor), ?_⟩;
           (first | (apply EvW.nilPtr; exact rfl)))
      (apply Par.quiet _ [true, true, true, true, true, false]; exact rfl; decide +kernel; exact rfl; intro R; refine ⟨_, (by repeat constructor), ?_⟩;
           (first | (apply EvW.fieldAddr0; exact rfl; exact FldC.eq)))
      (apply Par.quiet _ [true, true, true, true, true, false]; exact rfl; decide +kernel; exact rfl; intro R; refine ⟨_, (by repeat constructor), ?_⟩;
           (first | (apply EvW.load; exact rfl; exact ScalC.eq; (focus ((repeat constructor); done)); exact rfl)))
      (apply Par.quiet _ [true, true, true, true, true, false]; exact rfl; decide +kernel; exact rfl; intro R; refine ⟨_, (by repeat constructor), ?_⟩;
           (first | (apply EvW.nilPtr; exact rfl)))
      (apply Par.quiet _ [true, true, true, true, true, false]; exact rfl; decide +kernel; exact rfl; intro R; refine ⟨_, (by repeat constructor), ?_⟩;
           (first | (apply EvW.fieldAddr0; exact rfl; exact FldC.eq)))
      (apply Par.quiet _ [true, true, true, true, true, false]; exact rfl; decide +kernel; exact rfl; intro R; refine ⟨_, (by repeat constructor), ?_⟩;
           (first | (apply EvW.fieldAddr0; exact rfl; exact FldC.eq)))
      (apply Par.quiet _ [true, true, true, true, true, false]; exact rfl; decide +kernel; exact rfl; intro R; refine ⟨_, (by repeat constructor), ?_⟩;
           (first | (apply EvW.load; exact rfl; exact ScalC.eq; (focus ((repeat constructor); done)); exact rfl)))
      apply Par.eff _ [false, false, false, false, true, false] [false, false, false, false, false, true] [true, true, true, true, false, false]
      · exact rfl
      · exact rfl
      · decide +kernel
      · intro R
        refine ⟨_, _, _, (by repeat constructor), (by repeat constructor), (by repeat constructor), ?_⟩
        apply EffW.callA ([upH jb mb K false all])
        · exact rfl
        · exact fun w => Try.call17 _ w
        · (focus ((repeat constructor); done))
        · exact fun w1 S1 hS1 hs1 ho1 => arm_up jb mb K false all o.cv o.cs false w1 S1 hS1 (hs1 _ ho.cuts) ho.cl (fun h => by cases h)
        · exact fun _ _ h => h
        · exact fun _ h => TakeT.st (by (focus ((repeat (first | exact TakeT.tail | apply TakeT.cons | exact Take.head | apply Take.tail | apply TakeT.drop)); done))) h
      exact Par.nil
    · repeat (first | exact AllN.nil | (apply AllN.cons; (intro c x; (repeat (first | exact IndA.nil | (apply IndA.skip; decide +kernel) | apply IndA.same))))) 
    · repeat (first | exact AllN.nil | (apply AllN.cons; (intro c x; (repeat (first | exact IndT.nil | (apply IndT.skip; decide +kernel) | apply IndT.same))))) 
    · exact fun _ => rfl
    intro c
    refine ⟨_, (by repeat constructor), ?_⟩
    apply WE.writ
    · (focus ((repeat (first | exact Writ.nil | apply Writ.some | apply Writ.none)); done))
    repeat first
      | (apply WL.q; exact rfl; exact rfl; exact rfl; (first | (apply EvW.assign; exact rfl)))
      | refine WC.seq ?_ | refine WC.region ?_ | refine WL.nil ?_ | refine WE.next ?_ | refine WE.out ?_ | refine WC.ret ?_
    refine WE.keep (xs := [upH jb mb K false all, .blk b #[ptr mb 0, ptr jb 0, av, uv] 80, .own 34 3 (av) (numd 1 all).length ((numd 1 all).flatMap recC), .own 34 3 (uv) (numd (all.length + 1) []).length ((numd (all.length + 1) []).flatMap recC)]) (by repeat constructor) ?_
    refine WE.stUp (K' := K + 4) (und := []) (by omega) .head ?_
    refine WE.keep (xs := [.blk b #[ptr mb 0, ptr jb 0, av, uv] 80, stH jb mb (K + 4) all [] false, .own 34 3 (av) (numd 1 all).length ((numd 1 all).flatMap recC), .own 34 3 (uv) (numd (all.length + 1) []).length ((numd (all.length + 1) []).flatMap recC)]) (by repeat constructor) ?_
    refine WE.ret1 rfl rfl ?_
    exact ⟨mb, jb, av, uv, all, [], false, rfl, rfl, by omega, by decide, fun _ => rfl⟩
  have h1 : all.length ≤ all.length := Nat.le_refl _
  have h2 : all.length ≤ (all ++ []).length := by rw [List.append_nil]; exact Nat.le_refl _
  have h3 : (all ++ []).take all.length = all := by rw [List.append_nil, List.take_length]
  have h4 : (all ++ ([] : List Rec)).length ≤ 4294967290 := by rw [List.append_nil]; omega
  by_cases hk3 : o.k = 3
  · repeat first
      | refine WC.seq ?_ | refine WC.region ?_
    try refine WL.wanted rfl rfl rfl ?_
    (apply WL.box; exact rfl; exact rfl; exact rfl; intro ob)
    repeat first
      | (apply WL.q; exact rfl; exact rfl; exact rfl; (first | (apply EvW.move; exact rfl) | (apply EvW.assign; exact rfl) | (apply EvW.nilPtr; exact rfl) | (apply EvW.fieldAddr0; exact rfl; exact FldC.eq) | (apply EvW.load; exact rfl; exact ScalC.eq; (focus ((repeat constructor); done)); exact rfl) | (apply EvW.cmpT; exact rfl; exact rfl; exact rfl; omega) | (apply EvW.cmpF; exact rfl; exact rfl; exact rfl; omega)))
      | refine WC.seq ?_ | refine WC.region ?_ | refine WL.nil ?_ | refine WE.next ?_ | refine WC.block ?_ | refine WC.condT rfl ?_ | refine WC.condF rfl ?_
    try refine WL.wanted rfl rfl rfl ?_
    apply WL.callA ([upH jb mb K false all])
    · exact rfl
    · exact rfl
    · exact fun w => Try.call14 _ w
    · (focus ((repeat constructor); done))
    · exact fun w1 S1 hS1 hs1 ho1 => again_up jb mb K false all w1 S1 hS1
    rintro _ _ ⟨q, rfl, rfl⟩
    first | refine WL.app4 ?_ | refine WL.app3 ?_ | refine WL.app2 ?_ | refine WL.app1 ?_ | refine WL.app0 ?_ | skip
    repeat first
      | (apply WL.q; exact rfl; exact rfl; exact rfl; (first | (apply EvW.move; exact rfl) | (apply EvW.nilPtr; exact rfl) | (apply EvW.fieldAddr0; exact rfl; exact FldC.eq) | (apply EvW.load; exact rfl; exact ScalC.eq; (focus ((repeat constructor); done)); exact rfl) | (apply EvW.pneN; exact rfl; exact rfl; exact UndC.eq)))
      | refine WC.seq ?_ | refine WC.region ?_ | refine WL.nil ?_ | refine WE.next ?_ | refine WL.wanted rfl rfl rfl ?_ | (apply WL.store; exact rfl; exact rfl; (first | assumption | exact rfl); exact SzC.eq; (first | assumption | exact rfl); (focus ((repeat constructor); done)))
    try refine WL.wanted rfl rfl rfl ?_
    apply WL.callA ([.blk b #[ptr q 0, ptr jb 0, av, uv] 80, rsH q K true all, .own 34 3 (av) (numd 1 all).length ((numd 1 all).flatMap recC), .own 34 3 (uv) (numd (all.length + 1) []).length ((numd (all.length + 1) []).flatMap recC)])
    · exact rfl
    · exact rfl
    · exact fun w => Try.call27 _ w
    · (focus ((repeat constructor); done))
    · exact fun w1 S1 hS1 hs1 ho1 => lopen_spec b q K true (ptr jb 0) av uv o.cv all [] all o.cs w1 S1 hS1 (hs1 _ ho.cuts) ho.cl h1 h2 h3 h4 (by omega)
    rintro _ _ ⟨mb2, jb2, av2, rfl, rfl⟩
    first | refine WL.app4 ?_ | refine WL.app3 ?_ | refine WL.app2 ?_ | refine WL.app1 ?_ | refine WL.app0 ?_ | skip
    repeat first
      | (apply WL.q; exact rfl; exact rfl; exact rfl; (first | (apply EvW.assign; exact rfl) | (apply EvW.pickT; exact rfl; exact rfl)))
      | refine WL.nil ?_ | refine WE.next ?_ | refine WC.ret ?_ | refine WE.passRet ?_ | refine WE.outRet ?_
    refine WE.keep (xs := [upH jb2 mb2 (K + 4) true all, .blk b #[ptr mb2 0, ptr jb2 0, av2, .slice none 0 0] 80, .own 34 3 (av2) (numd 1 all).length ((numd 1 all).flatMap recC)]) (by repeat constructor) ?_
    refine WE.stUp (K' := K + 4) (und := []) (Nat.le_refl _) .head ?_
    refine WE.conv (fun _ hs => hs.ownNil (e := 34) (sz := 3)) ?_
    refine WE.keep (xs := [.blk b #[ptr mb2 0, ptr jb2 0, av2, .slice none 0 0] 80, stH jb2 mb2 (K + 4) all [] false, .own 34 3 (av2) (numd 1 all).length ((numd 1 all).flatMap recC), .own 34 3 (.slice none 0 0) (numd (all.length + 1) []).length ((numd (all.length + 1) []).flatMap recC)]) (by repeat constructor) ?_
    refine WE.ret1 rfl rfl ?_
    exact ⟨mb2, jb2, av2, .slice none 0 0, all, [], false, rfl, rfl, by omega, by decide, fun _ => rfl⟩
  by_cases hk4 : o.k = 4
  · repeat first
      | refine WC.seq ?_ | refine WC.region ?_
    try refine WL.wanted rfl rfl rfl ?_
    (apply WL.box; exact rfl; exact rfl; exact rfl; intro ob)
    repeat first
      | (apply WL.q; exact rfl; exact rfl; exact rfl; (first | (apply EvW.move; exact rfl) | (apply EvW.assign; exact rfl) | (apply EvW.nilPtr; exact rfl) | (apply EvW.fieldAddr0; exact rfl; exact FldC.eq) | (apply EvW.load; exact rfl; exact ScalC.eq; (focus ((repeat constructor); done)); exact rfl) | (apply EvW.cmpT; exact rfl; exact rfl; exact rfl; omega) | (apply EvW.cmpF; exact rfl; exact rfl; exact rfl; omega)))
      | refine WC.seq ?_ | refine WC.region ?_ | refine WL.nil ?_ | refine WE.next ?_ | refine WC.block ?_ | refine WC.condT rfl ?_ | refine WC.condF rfl ?_
    try refine WL.wanted rfl rfl rfl ?_
    apply WL.callA ([upH jb mb K false all])
    · exact rfl
    · exact rfl
    · exact fun w => Try.call17 _ w
    · (focus ((repeat constructor); done))
    · exact fun w1 S1 hS1 hs1 ho1 => arm_up jb mb K false all (.slice none 0 0) [] true w1 S1 hS1 Sees.nilRow (by decide) (fun _ => rfl)
    rintro _ _ ⟨rfl, rfl⟩
    first | refine WL.app4 ?_ | refine WL.app3 ?_ | refine WL.app2 ?_ | refine WL.app1 ?_ | refine WL.app0 ?_ | skip
    refine WL.conv (fun _ hs => St.rsUp (by repeat constructor) hs) ?_
    repeat first
      | (apply WL.q; exact rfl; exact rfl; exact rfl; (first | (apply EvW.move; exact rfl)))
      | refine WC.seq ?_ | refine WC.region ?_ | refine WL.nil ?_ | refine WE.next ?_
    try refine WL.wanted rfl rfl rfl ?_
    apply WL.callA ([.blk b #[ptr mb 0, ptr jb 0, av, uv] 80, rsH mb K true all, .own 34 3 (av) (numd 1 all).length ((numd 1 all).flatMap recC), .own 34 3 (uv) (numd (all.length + 1) []).length ((numd (all.length + 1) []).flatMap recC)])
    · exact rfl
    · exact rfl
    · exact fun w => Try.call27 _ w
    · (focus ((repeat constructor); done))
    · exact fun w1 S1 hS1 hs1 ho1 => lopen_spec b mb K true (ptr jb 0) av uv (.slice none 0 0) all [] all [] w1 S1 hS1 Sees.nilRow (by decide) h1 h2 h3 h4 (by omega)
    rintro _ _ ⟨mb2, jb2, av2, rfl, rfl⟩
    first | refine WL.app4 ?_ | refine WL.app3 ?_ | refine WL.app2 ?_ | refine WL.app1 ?_ | refine WL.app0 ?_ | skip
    repeat first
      | (apply WL.q; exact rfl; exact rfl; exact rfl; (first | (apply EvW.assign; exact rfl)))
      | refine WL.nil ?_ | refine WE.next ?_ | refine WC.ret ?_ | refine WE.passRet ?_ | refine WE.outRet ?_
    refine WE.keep (xs := [upH jb2 mb2 (K + 4) true all, .blk b #[ptr mb2 0, ptr jb2 0, av2, .slice none 0 0] 80, .own 34 3 (av2) (numd 1 all).length ((numd 1 all).flatMap recC)]) (by repeat constructor) ?_
    refine WE.stUp (K' := K + 4) (und := []) (Nat.le_refl _) .head ?_
    refine WE.conv (fun _ hs => hs.ownNil (e := 34) (sz := 3)) ?_
    refine WE.keep (xs := [.blk b #[ptr mb2 0, ptr jb2 0, av2, .slice none 0 0] 80, stH jb2 mb2 (K + 4) all [] false, .own 34 3 (av2) (numd 1 all).length ((numd 1 all).flatMap recC), .own 34 3 (.slice none 0 0) (numd (all.length + 1) []).length ((numd (all.length + 1) []).flatMap recC)]) (by repeat constructor) ?_
    refine WE.ret1 rfl rfl ?_
    exact ⟨mb2, jb2, av2, .slice none 0 0, all, [], false, rfl, rfl, by omega, by decide, fun _ => rfl⟩
  repeat first
    | refine WC.seq ?_ | refine WC.region ?_
  try refine WL.wanted rfl rfl rfl ?_
  (apply WL.box; exact rfl; exact rfl; exact rfl; intro ob)
  repeat first
    | (apply WL.q; exact rfl; exact rfl; exact rfl; (first | (apply EvW.assign; exact rfl) | (apply EvW.fieldAddr0; exact rfl; exact FldC.eq) | (apply EvW.load; exact rfl; exact ScalC.eq; (focus ((repeat constructor); done)); exact rfl) | (apply EvW.cmpF; exact rfl; exact rfl; exact rfl; omega)))
    | refine WC.seq ?_ | refine WC.region ?_ | refine WL.nil ?_ | refine WE.next ?_ | refine WC.block ?_ | refine WC.skip ?_ | refine WE.out ?_ | refine WC.condF rfl ?_ | refine WC.ret ?_
  refine WE.keep (xs := [upH jb mb K false all, .blk b #[ptr mb 0, ptr jb 0, av, uv] 80, .own 34 3 (av) (numd 1 all).length ((numd 1 all).flatMap recC), .own 34 3 (uv) (numd (all.length + 1) []).length ((numd (all.length + 1) []).flatMap recC)]) (by repeat constructor) ?_
  refine WE.stUp (K' := K + 4) (und := []) (by omega) .head ?_
  refine WE.keep (xs := [.blk b #[ptr mb 0, ptr jb 0, av, uv] 80, stH jb mb (K + 4) all [] false, .own 34 3 (av) (numd 1 all).length ((numd 1 all).flatMap recC), .own 34 3 (uv) (numd (all.length + 1) []).length ((numd (all.length + 1) []).flatMap recC)]) (by repeat constructor) ?_
  refine WE.ret1 rfl rfl ?_
  exact ⟨mb, jb, av, uv, all, [], false, rfl, rfl, by omega, by decide, fun _ => rfl⟩
end Go.Proofs.Ytknclcjmfgdphaa
namespace Go.Proofs.Ytknclcjmfgdphaa
open Go.RowKit Go.BK
set_option maxHeartbeats 4000000 in
set_option maxRecDepth 8000 in
theorem step_dn (b mb jb K : Nat) (av uv : Value) (all und : List Rec) (o : Op8) (w : World) (S : BSet) (hS : (sepL [.blk b #[ptr mb 0, ptr jb 0, av, uv] 80, dnH mb K (fun x => x = all ∨ x = all ++ und), .own 34 3 (av) (numd 1 all).length ((numd 1 all).flatMap recC), .own 34 3 (uv) (numd (all.length + 1) und).length ((numd (all.length + 1) und).flatMap recC)]).sat S w) (ho : o.Ok w S) (hK : K ≤ 1099511600000) (hfew : all.length ≤ 4294967280) (hun : und.length ≤ 1) :
    Tri Try.prog 28 #[ptr b 0, .agg #[i64 3, i64 o.r.kind, str o.r.text, o.cv]] w S fun u A => StepR b (K + 4) (all.length + 1) u A := by
  refine Tri.enter (l := [ptr b 0, .agg #[i64 3, i64 o.r.kind, str o.r.text, o.cv]]) Try.func28 rfl Try.ntmps28 rfl [(0, ptr b 0), (1, .agg #[i64 3, i64 o.r.kind, str o.r.text, o.cv])] (subA rfl) hS ?_
  have hcv := ho.cuts.row_one
  (first | refine WL.slOwn (v := av) (by repeat constructor) ?_ | refine WC.slOwn (v := av) (by repeat constructor) ?_)
  intro hc_av ho_av
  (first | refine WL.slOwn (v := uv) (by repeat constructor) ?_ | refine WC.slOwn (v := uv) (by repeat constructor) ?_)
  intro hc_uv ho_uv
  repeat first
    | refine WC.seq ?_ | refine WC.region ?_
  try refine WL.wanted rfl rfl rfl ?_
  (apply WL.box; exact rfl; exact rfl; exact rfl; intro ob)
  repeat first
    | (apply WL.q; exact rfl; exact rfl; exact rfl; (first | (apply EvW.move; exact rfl) | (apply EvW.assign; exact rfl) | (apply EvW.nilPtr; exact rfl) | (apply EvW.fieldAddr0; exact rfl; exact FldC.eq) | (apply EvW.load; exact rfl; exact ScalC.eq; (focus ((repeat constructor); done)); exact rfl) | (apply EvW.cmpT; exact rfl; exact rfl; exact rfl; omega) | (apply EvW.cmpF; exact rfl; exact rfl; exact rfl; omega)))
    | refine WC.seq ?_ | refine WC.region ?_ | refine WL.nil ?_ | refine WE.next ?_ | refine WC.block ?_ | refine WC.condT rfl ?_ | refine WC.condF rfl ?_
  try refine WL.wanted rfl rfl rfl ?_
  apply WL.callA ([dnH mb K (fun x => x = all ∨ x = all ++ und)])
  · exact rfl
  · exact rfl
  · exact fun w => Try.call14 _ w
  · (focus ((repeat constructor); done))
  · exact fun w1 S1 hS1 hs1 ho1 => again_dn mb K (fun x => x = all ∨ x = all ++ und) w1 S1 hS1
  rintro _ _ ⟨q, x, rfl, hq, rfl⟩
  first | refine WL.app4 ?_ | refine WL.app3 ?_ | refine WL.app2 ?_ | refine WL.app1 ?_ | refine WL.app0 ?_ | skip
  have hml : (all ++ und).length = all.length + und.length := List.length_append
  have h1 : all.length ≤ x.length := by
    rcases hq with h | h
    · rw [h]; exact Nat.le_refl _
    · rw [h, hml]; omega
  have h2 : x.length ≤ (all ++ und).length := by
    rcases hq with h | h
    · rw [h]; omega
    · rw [h]; exact Nat.le_refl _
  have h3 : (all ++ und).take x.length = x := by
    rcases hq with h | h
    · rw [h, List.take_left]
    · rw [h, List.take_length]
  repeat first
    | (apply WL.q; exact rfl; exact rfl; exact rfl; (first | (apply EvW.move; exact rfl) | (apply EvW.nilPtr; exact rfl) | (apply EvW.fieldAddr0; exact rfl; exact FldC.eq) | (apply EvW.load; exact rfl; exact ScalC.eq; (focus ((repeat constructor); done)); exact rfl) | (apply EvW.pneN; exact rfl; exact rfl; exact UndC.eq)))
    | refine WC.seq ?_ | refine WC.region ?_ | refine WL.nil ?_ | refine WE.next ?_ | refine WL.wanted rfl rfl rfl ?_ | (apply WL.store; exact rfl; exact rfl; (first | assumption | exact rfl); exact SzC.eq; (first | assumption | exact rfl); (focus ((repeat constructor); done)))
  try refine WL.wanted rfl rfl rfl ?_
  apply WL.callA ([.blk b #[ptr q 0, ptr jb 0, av, uv] 80, rsH q K true x, .own 34 3 (av) (numd 1 all).length ((numd 1 all).flatMap recC), .own 34 3 (uv) (numd (all.length + 1) und).length ((numd (all.length + 1) und).flatMap recC)])
  · exact rfl
  · exact rfl
  · exact fun w => Try.call27 _ w
  · (focus ((repeat constructor); done))
  · exact fun w1 S1 hS1 hs1 ho1 => lopen_spec b q K true (ptr jb 0) av uv o.cv all und x o.cs w1 S1 hS1 (hs1 _ ho.cuts) ho.cl h1 h2 h3 (by omega) (by omega)
  rintro _ _ ⟨mb2, jb2, av2, rfl, rfl⟩
  first | refine WL.app4 ?_ | refine WL.app3 ?_ | refine WL.app2 ?_ | refine WL.app1 ?_ | refine WL.app0 ?_ | skip
  repeat first
    | (apply WL.q; exact rfl; exact rfl; exact rfl; (first | (apply EvW.assign; exact rfl) | (apply EvW.pickT; exact rfl; exact rfl)))
    | refine WL.nil ?_ | refine WE.next ?_ | refine WC.ret ?_ | refine WE.passRet ?_ | refine WE.outRet ?_
  refine WE.keep (xs := [upH jb2 mb2 (K + 4) true x, .blk b #[ptr mb2 0, ptr jb2 0, av2, .slice none 0 0] 80, .own 34 3 (av2) (numd 1 x).length ((numd 1 x).flatMap recC)]) (by repeat constructor) ?_
  refine WE.stUp (K' := K + 4) (und := []) (Nat.le_refl _) .head ?_
  refine WE.conv (fun _ hs => hs.ownNil (e := 34) (sz := 3)) ?_
  refine WE.keep (xs := [.blk b #[ptr mb2 0, ptr jb2 0, av2, .slice none 0 0] 80, stH jb2 mb2 (K + 4) x [] false, .own 34 3 (av2) (numd 1 x).length ((numd 1 x).flatMap recC), .own 34 3 (.slice none 0 0) (numd (x.length + 1) []).length ((numd (x.length + 1) []).flatMap recC)]) (by repeat constructor) ?_
  refine WE.ret1 rfl rfl ?_
  exact ⟨mb2, jb2, av2, .slice none 0 0, x, [], false, rfl, rfl, by omega, by decide, fun _ => rfl⟩
theorem op8_at {xs : List Op8} {w : World} {S : BSet} (h : ∀ x ∈ xs, x.Ok w S) {i : Nat} (hi : i < xs.length) : (xs.getD i default).Ok w S := by
  rw [List.getD_eq_getElem?_getD, List.getElem?_eq_getElem hi]
  exact h _ (List.getElem_mem hi)
theorem op8_one {x : Op8} {w : World} {S : BSet} (h : x.Ok w S) : (op8C x).all (·.oneCell') = true := by
  have h2 := h.cuts.row_one
  simp [op8C, h2]
  refine ⟨rfl, rfl, rfl⟩
theorem op8_down {o : Op8} {w w1 : World} {S S1 : BSet} (h : o.Ok w S) (hs1 : ∀ B, Sees w S B → Sees w1 S1 B) : o.Ok w1 S1 := ⟨hs1 _ h.cuts, h.cl, h.tl⟩
def backO : Op8 := ⟨3, ⟨0, []⟩, .slice none 0 0, []⟩
theorem backO_ok (w : World) (S : BSet) : backO.Ok w S := ⟨Sees.nilRow, by decide, by decide⟩
set_option maxHeartbeats 8000000 in
set_option maxRecDepth 8000 in
theorem play_spec (v : Value) (xs : List Op8) (w : World) (S : BSet) (hS : (sepL []).sat S w) (hv : Sees w S (.row 4 v xs.length (xs.flatMap op8C))) (hn : xs.length ≤ 1048576) (hx : ∀ x ∈ xs, x.Ok w S) :
    Tri Try.prog 16 #[v] w S fun u A => u = .bool true ∧ A = [] := by
  refine Tri.enter (l := [v]) Try.func16 rfl Try.ntmps16 rfl [(0, v)] (subA rfl) hS ?_
  repeat first
    | (apply WL.q; exact rfl; exact rfl; exact rfl; (first | (apply EvW.assign; exact rfl)))
    | refine WC.seq ?_ | refine WC.region ?_ | refine WL.nil ?_ | refine WE.next ?_
  try refine WL.wanted rfl rfl rfl ?_
  apply WL.callA ([])
  · exact rfl
  · exact rfl
  · exact fun w => Try.call10 _ w
  · (focus ((repeat constructor); done))
  · exact fun w1 S1 hS1 hs1 ho1 => new8 w1 S1 hS1
  rintro _ _ ⟨m0, rfl, rfl⟩
  first | refine WL.app4 ?_ | refine WL.app3 ?_ | refine WL.app2 ?_ | refine WL.app1 ?_ | refine WL.app0 ?_ | skip
  repeat first
    | (apply WL.q; exact rfl; exact rfl; exact rfl; (first | (apply EvW.build; exact PlC.eq; exact ZvC.eq; exact rfl; exact rfl; (focus ((repeat (first | exact Fills.nil | (apply Fills.cons; exact rfl; (first | assumption | exact rfl); exact rfl) | exact SetMany.nil | apply SetMany.cons | apply SetMany.succ)); done)))))
  try refine WL.wanted rfl rfl rfl ?_
  (apply WL.box; exact rfl; exact rfl; exact rfl; intro b)
  refine WL.ownNil 34 3 ?_
  refine WL.ownNil 34 3 ?_
  repeat first
    | (apply WL.q; exact rfl; exact rfl; exact rfl; (first | (apply EvW.move; exact rfl) | (apply EvW.assign; exact rfl)))
    | refine WC.seq ?_ | refine WC.region ?_ | refine WL.nil ?_ | refine WE.next ?_
  try refine WL.wanted rfl rfl rfl ?_
  apply WL.callA ([.blk b #[ptr m0 0, .pointer none, .slice none 0 0, .slice none 0 0] 80, rsH m0 0 true [], .own 34 3 (.slice none 0 0) (numd 1 []).length ((numd 1 []).flatMap recC), .own 34 3 (.slice none 0 0) (numd 1 []).length ((numd 1 []).flatMap recC)])
  · exact rfl
  · exact rfl
  · exact fun w => Try.call27 _ w
  · (focus ((repeat constructor); done))
  · exact fun w1 S1 hS1 hs1 ho1 => lopen_spec b m0 0 true (.pointer none) (.slice none 0 0) (.slice none 0 0) (.slice none 0 0) [] [] [] [] w1 S1 hS1 Sees.nilRow (by decide) (Nat.le_refl _) (Nat.le_refl _) rfl (by decide) (by decide)
  rintro _ _ ⟨m1, j1, a1, rfl, rfl⟩
  first | refine WL.app4 ?_ | refine WL.app3 ?_ | refine WL.app2 ?_ | refine WL.app1 ?_ | refine WL.app0 ?_ | skip
  refine WL.conv (A' := [stH j1 m1 4 [] [] false, .blk b #[ptr m1 0, ptr j1 0, a1, .slice none 0 0] 80, .own 34 3 (a1) (numd 1 []).length ((numd 1 []).flatMap recC), .own 34 3 (.slice none 0 0) (numd 1 []).length ((numd 1 []).flatMap recC)]) (fun _ hs => ?_) ?_
  · have h2 : St w S [upH j1 m1 (0 + 4) true [], .blk b #[ptr m1 0, ptr j1 0, a1, .slice none 0 0] 80, .own 34 3 (a1) (numd 1 []).length ((numd 1 []).flatMap recC), .own 34 3 (.slice none 0 0) (numd 1 []).length ((numd 1 []).flatMap recC)] _ := (hs.ownNil (e := 34) (sz := 3)).keep (by repeat constructor)
    exact h2.mono fun S w h => up_weak h (by decide)
  repeat first
    | (apply WL.q; exact rfl; exact rfl; exact rfl; (first | (apply EvW.move; exact rfl) | (apply EvW.notT; exact rfl) | (apply EvW.lenRow; exact rfl; exact UndC.eq; assumption)))
    | refine WC.seq ?_ | refine WC.region ?_ | refine WL.nil ?_ | refine WE.next ?_ | refine WC.block ?_ | refine WC.skip ?_ | refine WC.condF rfl ?_
  refine WC.loopK (σ := Nat × Nat × Nat × Value × Value × List Rec × List Rec × Bool) [3, 16, 17] (fun s => [(18, i64 s.1)]) (fun s => [.blk b #[ptr s.2.1 0, ptr s.2.2.1 0, s.2.2.2.1, s.2.2.2.2.1] 80, stH s.2.2.1 s.2.1 (4 + 4 * s.1) s.2.2.2.2.2.1 s.2.2.2.2.2.2.1 s.2.2.2.2.2.2.2, .own 34 3 (s.2.2.2.1) (numd 1 s.2.2.2.2.2.1).length ((numd 1 s.2.2.2.2.2.1).flatMap recC), .own 34 3 (s.2.2.2.2.1) (numd (s.2.2.2.2.2.1.length + 1) s.2.2.2.2.2.2.1).length ((numd (s.2.2.2.2.2.1.length + 1) s.2.2.2.2.2.2.1).flatMap recC)]) (fun s => s.1 ≤ xs.length ∧ s.2.2.2.2.2.1.length ≤ s.1 ∧ s.2.2.2.2.2.2.1.length ≤ 1 ∧ (s.2.2.2.2.2.2.2 = false → s.2.2.2.2.2.2.1 = [])) (fun s => xs.length - s.1) (0, m1, j1, a1, .slice none 0 0, [], [], false) (by (focus ((repeat (first | exact Pick.nil | (apply Pick.cons; exact rfl))); done))) (by (focus ((repeat (first | exact trivial | (refine ⟨rfl, ?_⟩))); done))) (fun _ h => h.keep (by repeat constructor)) ⟨Nat.zero_le _, Nat.le_refl _, Nat.zero_le 1, fun _ => rfl⟩ (fun s hs => ?_)
  obtain ⟨i, mb, jb, av, uv, all, und, d⟩ := s
  simp only [List.cons_append, List.nil_append] at hs ⊢
  obtain ⟨hi0, hall, hul, hud⟩ := hs
  by_cases hlt : (i : Int) < xs.length
  · have hxo := op8_at hx (show i < xs.length by omega)
    repeat first
      | (apply WL.q; exact rfl; exact rfl; exact rfl; (first | (apply EvW.cmpT; exact rfl; exact rfl; exact rfl; omega) | (apply EvW.idxRow; exact rfl; exact rfl; exact UndC.eq; exact SzC.eq; assumption; omega; omega)))
      | refine WC.seq ?_ | refine WC.region ?_ | refine WL.nil ?_ | refine WE.next ?_ | refine WC.block ?_ | refine WC.skip ?_ | refine WC.condT rfl ?_
    (apply WL.q; exact rfl; exact rfl; exact rfl; (apply EvW.ldElem (xs := xs) (z := (default : Op8)) (f := op8C); exact rfl; exact AggC.eq; exact SzC.eq; exact rfl; exact fun _ => rfl; assumption; omega))
    rw [show ((i : Nat) : Int).toNat = i from rfl]
    try refine WL.wanted rfl rfl rfl ?_
    (apply WL.alloc; exact rfl; exact ZvC.eq; exact rfl; intro z)
    generalize xs.getD i default = x at hxo
    have hcv := hxo.cuts.row_one
    have hone := op8_one hxo
    cases d with
    | false =>
      obtain rfl := hud rfl
      rw [show stH jb mb (4 + 4 * i) all [] false = upH jb mb (4 + 4 * i) false all from rfl]
      repeat first
        | (apply WL.q; exact rfl; exact rfl; exact rfl; (first | (apply EvW.move; exact rfl) | (apply EvW.nilPtr; exact rfl) | (apply EvW.fieldAddr0; exact rfl; exact FldC.eq) | (apply EvW.load; exact rfl; exact ScalC.eq; (focus ((repeat constructor); done)); exact rfl)))
        | refine WC.seq ?_ | refine WC.region ?_ | refine WL.nil ?_ | refine WE.next ?_ | (apply WL.store; exact rfl; exact rfl; (first | assumption | exact rfl); exact SzC.eq; (first | assumption | exact rfl); (focus ((repeat constructor); done)))
      try refine WL.wanted rfl rfl rfl ?_
      apply WL.callA ([upH jb mb (4 + 4 * i) false all])
      · exact rfl
      · exact rfl
      · exact fun w => Try.call18 _ w
      · (focus ((repeat constructor); done))
      · exact fun w1 S1 hS1 hs1 ho1 => down_up jb mb (4 + 4 * i) false all w1 S1 hS1
      rintro _ _ ⟨rfl, rfl⟩
      first | refine WL.app4 ?_ | refine WL.app3 ?_ | refine WL.app2 ?_ | refine WL.app1 ?_ | refine WL.app0 ?_ | skip
      repeat first
        | (apply WL.q; exact rfl; exact rfl; exact rfl; (first | (apply EvW.move; exact rfl) | (apply EvW.pickF; exact rfl; exact rfl) | (apply EvW.loadAgg; exact rfl; exact AggC.eq; exact SzC.eq; (focus ((repeat constructor); done)); (focus ((repeat (first | exact SubL.nil | apply SubL.cons | apply SubL.succ)); done)))))
        | refine WC.seq ?_ | refine WC.region ?_ | refine WL.nil ?_ | refine WE.next ?_ | refine WC.skip ?_ | refine WC.condF rfl ?_ | refine WL.unwanted rfl rfl rfl rfl ?_
      try refine WL.wanted rfl rfl rfl ?_
      apply WL.callA ([.blk b #[ptr mb 0, ptr jb 0, av, uv] 80, upH jb mb (4 + 4 * i) false all, .own 34 3 (av) (numd 1 all).length ((numd 1 all).flatMap recC), .own 34 3 (uv) (numd (all.length + 1) []).length ((numd (all.length + 1) []).flatMap recC)])
      · exact rfl
      · exact rfl
      · exact fun w => Try.call28 _ w
      · (focus ((repeat constructor); done))
      · exact fun w1 S1 hS1 hs1 ho1 => step_up b mb jb (4 + 4 * i) av uv all x w1 S1 hS1 (op8_down hxo hs1) (by omega) (by omega)
      rintro _ _ ⟨mb2, jb2, av2, uv2, al2, un2, d2, rfl, rfl, hl2, hu2, hd2⟩
      first | refine WL.app4 ?_ | refine WL.app3 ?_ | refine WL.app2 ?_ | refine WL.app1 ?_ | refine WL.app0 ?_ | skip
      rw [show 4 + 4 * i + 4 = 4 + 4 * (i + 1) by omega]
      repeat first
        | (apply WL.q; exact rfl; exact rfl; exact rfl; (first | (apply EvW.move; exact rfl) | (apply EvW.arN; exact rfl; exact rfl; exact rfl; refine i64_in ?_ ?_ <;> omega) | (apply EvW.notT; exact rfl)))
        | refine WC.region ?_ | refine WL.nil ?_ | refine WE.next ?_ | refine WC.skip ?_ | refine WE.out ?_ | refine WC.condF rfl ?_
      exact WE.again (s := (i, mb, jb, av, uv, all, ([] : List Rec), false)) ((i + 1, mb2, jb2, av2, uv2, al2, un2, d2)) ⟨by (simp only []; omega), by (simp only []; omega), hu2, hd2⟩ (by (focus ((repeat (first | exact trivial | (refine ⟨rfl, ?_⟩))); done))) (fun _ h => (by (try simp only []); exact h.keep (by repeat constructor))) (by (try simp only []); omega)
    | true =>
      rw [show stH jb mb (4 + 4 * i) all und true = dnH mb (4 + 4 * i) (fun x => x = all ∨ x = all ++ und) from rfl]
      by_cases hk : x.k = 3
      · repeat first
          | (apply WL.q; exact rfl; exact rfl; exact rfl; (first | (apply EvW.move; exact rfl) | (apply EvW.nilPtr; exact rfl) | (apply EvW.fieldAddr0; exact rfl; exact FldC.eq) | (apply EvW.load; exact rfl; exact ScalC.eq; (focus ((repeat constructor); done)); exact rfl)))
          | refine WC.seq ?_ | refine WC.region ?_ | refine WL.nil ?_ | refine WE.next ?_ | (apply WL.store; exact rfl; exact rfl; (first | assumption | exact rfl); exact SzC.eq; (first | assumption | exact rfl); (focus ((repeat constructor); done)))
        try refine WL.wanted rfl rfl rfl ?_
        apply WL.callA ([dnH mb (4 + 4 * i) (fun x => x = all ∨ x = all ++ und)])
        · exact rfl
        · exact rfl
        · exact fun w => Try.call18 _ w
        · (focus ((repeat constructor); done))
        · exact fun w1 S1 hS1 hs1 ho1 => down_dn mb (4 + 4 * i) (fun x => x = all ∨ x = all ++ und) w1 S1 hS1
        rintro _ _ ⟨rfl, rfl⟩
        first | refine WL.app4 ?_ | refine WL.app3 ?_ | refine WL.app2 ?_ | refine WL.app1 ?_ | refine WL.app0 ?_ | skip
        rw [hk]
        repeat first
          | (apply WL.q; exact rfl; exact rfl; exact rfl; (first | (apply EvW.move; exact rfl) | (apply EvW.fieldAddr0; exact rfl; exact FldC.eq) | (apply EvW.load; exact rfl; exact ScalC.eq; (focus ((repeat constructor); done)); exact rfl) | (apply EvW.cmpF; exact rfl; exact rfl; exact rfl; omega) | (apply EvW.pickT; exact rfl; exact rfl) | (apply EvW.loadAgg; exact rfl; exact AggC.eq; exact SzC.eq; (focus ((repeat constructor); done)); (focus ((repeat (first | exact SubL.nil | apply SubL.cons | apply SubL.succ)); done)))))
          | refine WC.seq ?_ | refine WC.region ?_ | refine WL.nil ?_ | refine WE.next ?_ | refine WC.skip ?_ | refine WC.condF rfl ?_ | refine WL.wanted rfl rfl rfl ?_
        try refine WL.wanted rfl rfl rfl ?_
        apply WL.callA ([.blk b #[ptr mb 0, ptr jb 0, av, uv] 80, dnH mb (4 + 4 * i) (fun x => x = all ∨ x = all ++ und), .own 34 3 (av) (numd 1 all).length ((numd 1 all).flatMap recC), .own 34 3 (uv) (numd (all.length + 1) und).length ((numd (all.length + 1) und).flatMap recC)])
        · exact rfl
        · exact rfl
        · exact fun w => Try.call28 _ w
        · (focus ((repeat constructor); done))
        · exact fun w1 S1 hS1 hs1 ho1 => step_dn b mb jb (4 + 4 * i) av uv all und x w1 S1 hS1 (op8_down hxo hs1) (by omega) (by omega) hul
        rintro _ _ ⟨mb2, jb2, av2, uv2, al2, un2, d2, rfl, rfl, hl2, hu2, hd2⟩
        first | refine WL.app4 ?_ | refine WL.app3 ?_ | refine WL.app2 ?_ | refine WL.app1 ?_ | refine WL.app0 ?_ | skip
        rw [show 4 + 4 * i + 4 = 4 + 4 * (i + 1) by omega]
        repeat first
          | (apply WL.q; exact rfl; exact rfl; exact rfl; (first | (apply EvW.move; exact rfl) | (apply EvW.arN; exact rfl; exact rfl; exact rfl; refine i64_in ?_ ?_ <;> omega) | (apply EvW.notT; exact rfl)))
          | refine WC.region ?_ | refine WL.nil ?_ | refine WE.next ?_ | refine WC.skip ?_ | refine WE.out ?_ | refine WC.condF rfl ?_
        exact WE.again (s := (i, mb, jb, av, uv, all, und, true)) ((i + 1, mb2, jb2, av2, uv2, al2, un2, d2)) ⟨by (simp only []; omega), by (simp only []; omega), hu2, hd2⟩ (by (focus ((repeat (first | exact trivial | (refine ⟨rfl, ?_⟩))); done))) (fun _ h => (by (try simp only []); exact h.keep (by repeat constructor))) (by (try simp only []); omega)
      · repeat first
          | (apply WL.q; exact rfl; exact rfl; exact rfl; (first | (apply EvW.move; exact rfl) | (apply EvW.nilPtr; exact rfl) | (apply EvW.fieldAddr0; exact rfl; exact FldC.eq) | (apply EvW.load; exact rfl; exact ScalC.eq; (focus ((repeat constructor); done)); exact rfl)))
          | refine WC.seq ?_ | refine WC.region ?_ | refine WL.nil ?_ | refine WE.next ?_ | (apply WL.store; exact rfl; exact rfl; (first | assumption | exact rfl); exact SzC.eq; (first | assumption | exact rfl); (focus ((repeat constructor); done)))
        try refine WL.wanted rfl rfl rfl ?_
        apply WL.callA ([dnH mb (4 + 4 * i) (fun x => x = all ∨ x = all ++ und)])
        · exact rfl
        · exact rfl
        · exact fun w => Try.call18 _ w
        · (focus ((repeat constructor); done))
        · exact fun w1 S1 hS1 hs1 ho1 => down_dn mb (4 + 4 * i) (fun x => x = all ∨ x = all ++ und) w1 S1 hS1
        rintro _ _ ⟨rfl, rfl⟩
        first | refine WL.app4 ?_ | refine WL.app3 ?_ | refine WL.app2 ?_ | refine WL.app1 ?_ | refine WL.app0 ?_ | skip
        repeat first
          | (apply WL.q; exact rfl; exact rfl; exact rfl; (first | (apply EvW.move; exact rfl) | (apply EvW.fieldAddr0; exact rfl; exact FldC.eq) | (apply EvW.load; exact rfl; exact ScalC.eq; (focus ((repeat constructor); done)); exact rfl) | (apply EvW.cmpT; exact rfl; exact rfl; exact rfl; omega) | (apply EvW.pickT; exact rfl; exact rfl) | (apply EvW.loadAgg; exact rfl; exact AggC.eq; exact SzC.eq; (focus ((repeat constructor); done)); (focus ((repeat (first | exact SubL.nil | apply SubL.cons | apply SubL.succ)); done))) | (apply EvW.build; exact PlC.eq; exact ZvC.eq; exact rfl; exact rfl; (focus ((repeat (first | exact Fills.nil | (apply Fills.cons; exact rfl; (first | assumption | exact rfl); exact rfl) | exact SetMany.nil | apply SetMany.cons | apply SetMany.succ)); done)))))
          | refine WC.seq ?_ | refine WC.region ?_ | refine WL.nil ?_ | refine WE.next ?_ | refine WC.condT rfl ?_ | refine WL.wanted rfl rfl rfl ?_ | (apply WL.store; exact rfl; exact rfl; (first | assumption | exact rfl); exact SzC.eq; (first | assumption | exact rfl); (focus ((repeat constructor); done)))
        try refine WL.wanted rfl rfl rfl ?_
        apply WL.callA ([.blk b #[ptr mb 0, ptr jb 0, av, uv] 80, dnH mb (4 + 4 * i) (fun x => x = all ∨ x = all ++ und), .own 34 3 (av) (numd 1 all).length ((numd 1 all).flatMap recC), .own 34 3 (uv) (numd (all.length + 1) und).length ((numd (all.length + 1) und).flatMap recC)])
        · exact rfl
        · exact rfl
        · exact fun w => Try.call28 _ w
        · (focus ((repeat constructor); done))
        · exact fun w1 S1 hS1 hs1 ho1 => step_dn b mb jb (4 + 4 * i) av uv all und backO w1 S1 hS1 (backO_ok _ _) (by omega) (by omega) hul
        rintro _ _ ⟨mb2, jb2, av2, uv2, al2, un2, d2, rfl, rfl, hl2, hu2, hd2⟩
        first | refine WL.app4 ?_ | refine WL.app3 ?_ | refine WL.app2 ?_ | refine WL.app1 ?_ | refine WL.app0 ?_ | skip
        rw [show 4 + 4 * i + 4 = 4 + 4 * (i + 1) by omega]
        repeat first
          | (apply WL.q; exact rfl; exact rfl; exact rfl; (first | (apply EvW.move; exact rfl) | (apply EvW.arN; exact rfl; exact rfl; exact rfl; refine i64_in ?_ ?_ <;> omega) | (apply EvW.notT; exact rfl)))
          | refine WC.region ?_ | refine WL.nil ?_ | refine WE.next ?_ | refine WC.skip ?_ | refine WE.out ?_ | refine WC.condF rfl ?_
        exact WE.again (s := (i, mb, jb, av, uv, all, und, true)) ((i + 1, mb2, jb2, av2, uv2, al2, un2, d2)) ⟨by (simp only []; omega), by (simp only []; omega), hu2, hd2⟩ (by (focus ((repeat (first | exact trivial | (refine ⟨rfl, ?_⟩))); done))) (fun _ h => (by (try simp only []); exact h.keep (by repeat constructor))) (by (try simp only []); omega)
  · cases d with
    | false =>
      obtain rfl := hud rfl
      rw [show stH jb mb (4 + 4 * i) all [] false = upH jb mb (4 + 4 * i) false all from rfl]
      repeat first
        | (apply WL.q; exact rfl; exact rfl; exact rfl; (first | (apply EvW.move; exact rfl) | (apply EvW.nilPtr; exact rfl) | (apply EvW.fieldAddr0; exact rfl; exact FldC.eq) | (apply EvW.load; exact rfl; exact ScalC.eq; (focus ((repeat constructor); done)); exact rfl) | (apply EvW.cmpF; exact rfl; exact rfl; exact rfl; omega)))
        | refine WC.seq ?_ | refine WC.region ?_ | refine WL.nil ?_ | refine WE.next ?_ | refine WC.exit ?_ | refine WE.pass ?_ | refine WE.hit ?_ | refine WC.condF rfl ?_
      try refine WL.wanted rfl rfl rfl ?_
      apply WL.callA ([upH jb mb (4 + 4 * i) false all])
      · exact rfl
      · exact rfl
      · exact fun w => Try.call18 _ w
      · (focus ((repeat constructor); done))
      · exact fun w1 S1 hS1 hs1 ho1 => down_up jb mb (4 + 4 * i) false all w1 S1 hS1
      rintro _ _ ⟨rfl, rfl⟩
      first | refine WL.app4 ?_ | refine WL.app3 ?_ | refine WL.app2 ?_ | refine WL.app1 ?_ | refine WL.app0 ?_ | skip
      repeat first
        | (apply WL.q; exact rfl; exact rfl; exact rfl; (first | (apply EvW.move; exact rfl) | (apply EvW.nilPtr; exact rfl) | (apply EvW.fieldAddr0; exact rfl; exact FldC.eq) | (apply EvW.load; exact rfl; exact ScalC.eq; (focus ((repeat constructor); done)); exact rfl)))
        | refine WC.seq ?_ | refine WC.region ?_ | refine WL.nil ?_ | refine WE.next ?_ | refine WC.skip ?_ | refine WC.condF rfl ?_
      try refine WL.wanted rfl rfl rfl ?_
      apply WL.callA ([upH jb mb (4 + 4 * i) false all])
      · exact rfl
      · exact rfl
      · exact fun w => Try.call15 _ w
      · (focus ((repeat constructor); done))
      · exact fun w1 S1 hS1 hs1 ho1 => safe_up jb mb (4 + 4 * i) false all w1 S1 hS1
      rintro _ _ ⟨rfl, rfl⟩
      first | refine WL.app4 ?_ | refine WL.app3 ?_ | refine WL.app2 ?_ | refine WL.app1 ?_ | refine WL.app0 ?_ | skip
      repeat first
        | (apply WL.q; exact rfl; exact rfl; exact rfl; (first | (apply EvW.move; exact rfl) | (apply EvW.assign; exact rfl) | (apply EvW.nilPtr; exact rfl) | (apply EvW.fieldAddr0; exact rfl; exact FldC.eq) | (apply EvW.load; exact rfl; exact ScalC.eq; (focus ((repeat constructor); done)); exact rfl) | (apply EvW.extract; exact rfl; exact rfl)))
        | refine WC.seq ?_ | refine WC.region ?_ | refine WL.nil ?_ | refine WE.next ?_
      try refine WL.wanted rfl rfl rfl ?_
      apply WL.callA ([])
      · exact rfl
      · exact rfl
      · exact fun w => Try.call29 _ w
      · (focus ((repeat constructor); done))
      · exact fun w1 S1 hS1 hs1 ho1 => rsafe_spec av all w1 S1 hS1 (by have h := (ho1 (.own 34 3 (av) (numd 1 all).length ((numd 1 all).flatMap recC)) _ (by repeat constructor)).own; rw [numd_len] at h; exact h) (by omega)
      rintro _ _ ⟨rfl, rfl⟩
      first | refine WL.app4 ?_ | refine WL.app3 ?_ | refine WL.app2 ?_ | refine WL.app1 ?_ | refine WL.app0 ?_ | skip
      repeat first
        | (apply WL.q; exact rfl; exact rfl; exact rfl; (first | (apply EvW.move; exact rfl) | (apply EvW.assign; exact rfl) | (apply EvW.extract; exact rfl; exact rfl) | (apply EvW.pickT; exact rfl; exact rfl) | (apply EvW.seqS; exact rfl; exact rfl) | (apply EvW.beqS; exact rfl; exact rfl; exact UndC.eq)))
        | refine WC.seq ?_ | refine WC.region ?_ | refine WL.nil ?_ | refine WE.next ?_ | refine WC.ret ?_ | refine WL.wanted rfl rfl rfl ?_
      refine WE.keep (xs := []) (by repeat constructor) ?_
      refine WE.ret1 rfl rfl ?_
      exact ⟨rfl, rfl⟩
    | true =>
      rw [show stH jb mb (4 + 4 * i) all und true = dnH mb (4 + 4 * i) (fun x => x = all ∨ x = all ++ und) from rfl]
      repeat first
        | (apply WL.q; exact rfl; exact rfl; exact rfl; (first | (apply EvW.move; exact rfl) | (apply EvW.nilPtr; exact rfl) | (apply EvW.fieldAddr0; exact rfl; exact FldC.eq) | (apply EvW.load; exact rfl; exact ScalC.eq; (focus ((repeat constructor); done)); exact rfl) | (apply EvW.cmpF; exact rfl; exact rfl; exact rfl; omega)))
        | refine WC.seq ?_ | refine WC.region ?_ | refine WL.nil ?_ | refine WE.next ?_ | refine WC.exit ?_ | refine WE.pass ?_ | refine WE.hit ?_ | refine WC.condF rfl ?_
      try refine WL.wanted rfl rfl rfl ?_
      apply WL.callA ([dnH mb (4 + 4 * i) (fun x => x = all ∨ x = all ++ und)])
      · exact rfl
      · exact rfl
      · exact fun w => Try.call18 _ w
      · (focus ((repeat constructor); done))
      · exact fun w1 S1 hS1 hs1 ho1 => down_dn mb (4 + 4 * i) (fun x => x = all ∨ x = all ++ und) w1 S1 hS1
      rintro _ _ ⟨rfl, rfl⟩
      first | refine WL.app4 ?_ | refine WL.app3 ?_ | refine WL.app2 ?_ | refine WL.app1 ?_ | refine WL.app0 ?_ | skip
      repeat first
        | (apply WL.q; exact rfl; exact rfl; exact rfl; (first | (apply EvW.move; exact rfl) | (apply EvW.build; exact PlC.eq; exact ZvC.eq; exact rfl; exact rfl; (focus ((repeat (first | exact Fills.nil | (apply Fills.cons; exact rfl; (first | assumption | exact rfl); exact rfl) | exact SetMany.nil | apply SetMany.cons | apply SetMany.succ)); done)))))
        | refine WC.seq ?_ | refine WC.region ?_ | refine WL.nil ?_ | refine WE.next ?_ | refine WC.condT rfl ?_
      try refine WL.wanted rfl rfl rfl ?_
      apply WL.callA ([.blk b #[ptr mb 0, ptr jb 0, av, uv] 80, dnH mb (4 + 4 * i) (fun x => x = all ∨ x = all ++ und), .own 34 3 (av) (numd 1 all).length ((numd 1 all).flatMap recC), .own 34 3 (uv) (numd (all.length + 1) und).length ((numd (all.length + 1) und).flatMap recC)])
      · exact rfl
      · exact rfl
      · exact fun w => Try.call28 _ w
      · (focus ((repeat constructor); done))
      · exact fun w1 S1 hS1 hs1 ho1 => step_dn b mb jb (4 + 4 * i) av uv all und backO w1 S1 hS1 (backO_ok _ _) (by omega) (by omega) hul
      rintro _ _ ⟨mb2, jb2, av2, uv2, al2, un2, d2, rfl, rfl, hl2, hu2, hd2⟩
      first | refine WL.app4 ?_ | refine WL.app3 ?_ | refine WL.app2 ?_ | refine WL.app1 ?_ | refine WL.app0 ?_ | skip
      repeat first
        | (apply WL.q; exact rfl; exact rfl; exact rfl; (first | (apply EvW.assign; exact rfl)))
        | refine WL.nil ?_ | refine WE.next ?_ | refine WC.ret ?_ | refine WE.passRet ?_
      refine WE.keep (xs := []) (by repeat constructor) ?_
      refine WE.ret1 rfl rfl ?_
      exact ⟨rfl, rfl⟩
end Go.Proofs.Ytknclcjmfgdphaa
namespace Go.Proofs.Ytknclcjmfgdphaa
open Go.RowKit Go.BK
def opA (k : Int) (t : Txt) : Op8 := ⟨1, ⟨k, t⟩, .slice none 0 0, []⟩
def opK (k : Int) : Op8 := ⟨k, ⟨0, []⟩, .slice none 0 0, []⟩
end Go.Proofs.Ytknclcjmfgdphaa
namespace Go.Proofs.Ytknclcjmfgdphaa
open Go.RowKit Go.BK
def QOk (xs : List Op8) : Prop := ∀ x ∈ xs, x.cv = .slice none 0 0 ∧ x.cs = [] ∧ x.r.text.length ≤ 140737488355328
theorem QOk.snoc {xs : List Op8} (h : QOk xs) {x : Op8} (h1 : x.cv = .slice none 0 0) (h2 : x.cs = []) (h3 : x.r.text.length ≤ 140737488355328) : QOk (xs ++ [x]) := fun y hy => by
  rcases List.mem_append.1 hy with hy | hy
  · exact h y hy
  · rcases List.mem_cons.1 hy with rfl | hy
    · exact ⟨h1, h2, h3⟩
    · cases hy
theorem QOk.ok {xs : List Op8} (h : QOk xs) (w : World) (S : BSet) : ∀ x ∈ xs, x.Ok w S := fun x hx => by
  obtain ⟨h1, h2, h3⟩ := h x hx
  exact ⟨by rw [h1, h2]; exact Sees.nilRow, by rw [h2]; exact Nat.zero_le _, h3⟩
set_option maxHeartbeats 4000000 in
set_option maxRecDepth 8000 in
theorem journalQuiet_law (f : Txt) (v : Value) (l : List Txt) (tm : Int) (w : World) (S : BSet) (hS : (sepL []).sat S w) (hf : f.length ≤ 140737488355328) (hv : Sees w S (.row 1 v l.length (l.map str))) (hl : l.length ≤ 140737488355328) (ht : ∀ s ∈ l, s.length ≤ 140737488355328) :
    Tri Try.prog 7 #[str f, v, i64 tm] w S fun u A => u = .bool true := by
  refine Tri.enter (l := [str f, v, i64 tm]) Try.func7 rfl Try.ntmps7 rfl [(0, str f), (1, v), (2, i64 tm)] (subA rfl) hS ?_
  repeat first
    | (apply WL.q; exact rfl; exact rfl; exact rfl; (first | (apply EvW.assign; exact rfl)))
    | refine WC.seq ?_ | refine WC.region ?_ | refine WL.nil ?_ | refine WE.next ?_
  try refine WL.wanted rfl rfl rfl ?_
  apply WL.callA ([])
  · exact rfl
  · exact rfl
  · exact fun w => Try.call9 _ w
  · (focus ((repeat constructor); done))
  · exact fun w1 S1 hS1 hs1 ho1 => lives8_spec w1 S1 hS1
  rintro _ _ ⟨rfl, rfl⟩
  first | refine WL.app4 ?_ | refine WL.app3 ?_ | refine WL.app2 ?_ | refine WL.app1 ?_ | refine WL.app0 ?_ | skip
  repeat first
    | (apply WL.q; exact rfl; exact rfl; exact rfl; (first | (apply EvW.move; exact rfl) | (apply EvW.assign; exact rfl) | (apply EvW.convN; exact rfl; exact UndC.eq; exact UndC.eq; (first | (refine i64_in ?_ ?_ <;> omega) | (constructor <;> simp only [IntKind.min, IntKind.max, IntKind.signed, IntKind.bits, ↓reduceIte, Bool.false_eq_true] <;> omega))) | (apply EvW.conv; exact rfl; exact UndC.eq; exact UndC.eq) | (apply EvW.notT; exact rfl) | (apply EvW.build; exact PlC.eq; exact ZvC.eq; exact rfl; exact rfl; (focus ((repeat (first | exact Fills.nil | (apply Fills.cons; exact rfl; (first | assumption | exact rfl); exact rfl) | exact SetMany.nil | apply SetMany.cons | apply SetMany.succ)); done))) | (apply EvW.remW; exact rfl; exact rfl; exact rfl; omega)))
    | refine WC.seq ?_ | refine WC.region ?_ | refine WL.nil ?_ | refine WE.next ?_ | refine WC.skip ?_ | refine WC.condF rfl ?_
  obtain ⟨N, hN⟩ : ∃ N : Nat, IntKind.u64.wrap tm % 60 = (N : Int) := ⟨(IntKind.u64.wrap tm % 60).toNat, by omega⟩
  have hN1 : N < 60 := by omega
  try refine WL.wanted rfl rfl rfl ?_
  (apply WL.buildSlice; exact rfl; exact UndC.eq; exact SzC.eq; exact ZvC.eq; exact rfl; exact rfl; exact rfl; ((focus ((repeat (first | exact Flat.nil | (apply Flat.one; (first | exact rfl | assumption)) | (apply Flat.cons; exact rfl; exact rfl))); done))); exact rfl; exact rfl; intro c1)
  refine WL.toOwn (bl := c1) 1 4 .head rfl ?_
  refine WL.ownEq (cs' := [opA 1 f].flatMap op8C) (len' := [opA 1 f].length) .head rfl rfl ?_
  rw [hN]
  have hinit : 0 ≤ N ∧ [opA 1 f].length ≤ 1 + 10 * 0 ∧ QOk [opA 1 f] := ⟨Nat.zero_le _, Nat.le_refl _, fun x hx => by (rcases List.mem_cons.1 hx with rfl | hx; exact ⟨rfl, rfl, hf⟩; cases hx)⟩
  repeat first
    | (apply WL.q; exact rfl; exact rfl; exact rfl; (first | (apply EvW.assign; exact rfl)))
    | refine WC.seq ?_ | refine WC.region ?_ | refine WL.nil ?_ | refine WE.next ?_ | refine WC.block ?_
  refine WC.loopK (σ := Nat × Value × List Op8) [1, 7] (fun s => [(9, i64 s.1), (8, s.2.1)]) (fun s => [.own 50 4 (s.2.1) (s.2.2).length ((s.2.2).flatMap op8C)]) (fun s => s.1 ≤ N ∧ s.2.2.length ≤ 1 + 10 * s.1 ∧ QOk s.2.2) (fun s => N - s.1) (0, .slice (some ⟨c1, 0, none⟩) 1 1, [opA 1 f]) (by (focus ((repeat (first | exact Pick.nil | (apply Pick.cons; exact rfl))); done))) (by (focus ((repeat (first | exact trivial | (refine ⟨rfl, ?_⟩))); done))) (fun _ h => h.keep (by repeat constructor)) hinit (fun s hs => ?_)
  obtain ⟨i, sv, xs⟩ := s
  simp only [List.cons_append, List.nil_append] at hs ⊢
  obtain ⟨hi, hxl, hq⟩ := hs
  by_cases hlt : (i : Int) < N
  · (first | refine WL.slOwn (v := sv) (by repeat constructor) ?_ | refine WC.slOwn (v := sv) (by repeat constructor) ?_)
    intro hc_sv ho_sv
    have hin2 : 0 ≤ l.length ∧ xs.length ≤ xs.length + min 0 8 ∧ QOk xs := ⟨Nat.zero_le _, Nat.le_add_right _ _, hq⟩
    repeat first
      | (apply WL.q; exact rfl; exact rfl; exact rfl; (first | (apply EvW.move; exact rfl) | (apply EvW.cmpT; exact rfl; exact rfl; exact rfl; omega) | (apply EvW.lenRow; exact rfl; exact UndC.eq; assumption)))
      | refine WC.seq ?_ | refine WC.region ?_ | refine WL.nil ?_ | refine WE.next ?_ | refine WC.block ?_ | refine WC.skip ?_ | refine WC.condT rfl ?_
    refine WC.loopK (σ := Nat × Value × List Op8) [1, 7, 9, 26, 27] (fun s => [(28, i64 s.1), (8, s.2.1)]) (fun s => [.own 50 4 (s.2.1) (s.2.2).length ((s.2.2).flatMap op8C)]) (fun s => s.1 ≤ l.length ∧ s.2.2.length ≤ xs.length + min s.1 8 ∧ QOk s.2.2) (fun s => l.length - s.1) (0, sv, xs) (by (focus ((repeat (first | exact Pick.nil | (apply Pick.cons; exact rfl))); done))) (by (focus ((repeat (first | exact trivial | (refine ⟨rfl, ?_⟩))); done))) (fun _ h => h.keep (by repeat constructor)) hin2 (fun s hs => ?_)
    obtain ⟨k, sw, ys⟩ := s
    simp only [List.cons_append, List.nil_append] at hs ⊢
    obtain ⟨hk, hyl, hqy⟩ := hs
    (first | refine WL.slOwn (v := sw) (by repeat constructor) ?_ | refine WC.slOwn (v := sw) (by repeat constructor) ?_)
    intro hc_sw ho_sw
    by_cases hlk : (k : Int) < l.length
    · obtain ⟨s, hs⟩ : ∃ s, l.getD ((k : Nat) : Int).toNat [] = s := ⟨_, rfl⟩
      have hsl : s.length ≤ 140737488355328 := ht s (by rw [← hs, show ((k : Nat) : Int).toNat = k from rfl, List.getD_eq_getElem?_getD, List.getElem?_eq_getElem (by omega)]; exact List.getElem_mem _)
      by_cases hk8 : (k : Int) < 8
      · repeat first
          | (apply WL.q; exact rfl; exact rfl; exact rfl; (first | (apply EvW.move; exact rfl) | (apply EvW.assign; exact rfl) | (apply EvW.cmpT; exact rfl; exact rfl; exact rfl; omega) | (apply EvW.build; exact PlC.eq; exact ZvC.eq; exact rfl; exact rfl; (focus ((repeat (first | exact Fills.nil | (apply Fills.cons; exact rfl; (first | assumption | exact rfl); exact rfl) | exact SetMany.nil | apply SetMany.cons | apply SetMany.succ)); done))) | (apply EvW.ldStr; exact rfl; exact ScalC.eq; assumption; omega) | (apply EvW.idxRow; exact rfl; exact rfl; exact UndC.eq; exact SzC.eq; assumption; omega; omega)))
          | refine WC.seq ?_ | refine WC.region ?_ | refine WL.nil ?_ | refine WE.next ?_ | refine WC.block ?_ | refine WC.skip ?_ | refine WC.condT rfl ?_
        rw [hs]
        try refine WL.wanted rfl rfl rfl ?_
        (apply WL.buildSlice; exact rfl; exact UndC.eq; exact SzC.eq; exact ZvC.eq; exact rfl; exact rfl; exact rfl; ((focus ((repeat (first | exact Flat.nil | (apply Flat.one; (first | exact rfl | assumption)) | (apply Flat.cons; exact rfl; exact rfl))); done))); exact rfl; exact rfl; intro c2)
        try refine WL.wanted rfl rfl rfl ?_
        (apply WL.append; exact rfl; exact rfl; exact rfl; exact UndC.eq; exact SzC.eq; exact ByC.eq; exact ZvC.eq; exact rfl; (first | exact notInt_sl UndC.eq | exact notInt_st UndC.eq); exact rfl; (focus ((repeat constructor); done)))
        · exact adds_blk .head rfl rfl
        · (omega)
        intro s2
        refine WL.ownEq (cs' := (ys ++ [opA 2 s]).flatMap op8C) (len' := (ys ++ [opA 2 s]).length) .head (by rw [List.length_append]; rfl) (by rw [List.flatMap_append]; rfl) ?_
        repeat first
          | (apply WL.q; exact rfl; exact rfl; exact rfl; (first | (apply EvW.move; exact rfl) | (apply EvW.assign; exact rfl) | (apply EvW.arN; exact rfl; exact rfl; exact rfl; (first | (refine i64_in ?_ ?_ <;> omega) | (constructor <;> simp only [IntKind.min, IntKind.max, IntKind.signed, IntKind.bits, ↓reduceIte, Bool.false_eq_true] <;> omega)))))
          | refine WC.region ?_ | refine WL.nil ?_ | refine WE.next ?_ | refine WE.out ?_
        exact WE.again (s := (k, sw, ys)) ((k + 1, s2, ys ++ [opA 2 s])) ⟨by (simp only []; omega), by (simp only [List.length_append, List.length_cons, List.length_nil]; omega), hqy.snoc rfl rfl hsl⟩ (by (focus ((repeat (first | exact trivial | (refine ⟨rfl, ?_⟩))); done))) (fun _ h => (by (try simp only []); exact h.keep (by repeat constructor))) (by (try simp only []); omega)
      · repeat first
          | (apply WL.q; exact rfl; exact rfl; exact rfl; (first | (apply EvW.move; exact rfl) | (apply EvW.assign; exact rfl) | (apply EvW.cmpT; exact rfl; exact rfl; exact rfl; omega) | (apply EvW.cmpF; exact rfl; exact rfl; exact rfl; omega) | (apply EvW.arN; exact rfl; exact rfl; exact rfl; (first | (refine i64_in ?_ ?_ <;> omega) | (constructor <;> simp only [IntKind.min, IntKind.max, IntKind.signed, IntKind.bits, ↓reduceIte, Bool.false_eq_true] <;> omega))) | (apply EvW.ldStr; exact rfl; exact ScalC.eq; assumption; omega) | (apply EvW.idxRow; exact rfl; exact rfl; exact UndC.eq; exact SzC.eq; assumption; omega; omega)))
          | refine WC.seq ?_ | refine WC.region ?_ | refine WL.nil ?_ | refine WE.next ?_ | refine WC.block ?_ | refine WC.skip ?_ | refine WE.out ?_ | refine WC.condT rfl ?_ | refine WC.condF rfl ?_
        exact WE.again (s := (k, sw, ys)) ((k + 1, sw, ys)) ⟨by (simp only []; omega), by (simp only []; omega), hqy⟩ (by (focus ((repeat (first | exact trivial | (refine ⟨rfl, ?_⟩))); done))) (fun _ h => (by (try simp only []); exact h.keep (by repeat constructor))) (by (try simp only []); omega)
    · have hyl2 : ys.length ≤ 1 + 10 * i + 8 := by omega
      by_cases h7 : (i : Int) % 7 = 3
      · repeat first
          | (apply WL.q; exact rfl; exact rfl; exact rfl; (first | (apply EvW.move; exact rfl) | (apply EvW.cmpT; exact rfl; exact rfl; exact rfl; omega) | (apply EvW.cmpF; exact rfl; exact rfl; exact rfl; omega) | (apply EvW.build; exact PlC.eq; exact ZvC.eq; exact rfl; exact rfl; (focus ((repeat (first | exact Fills.nil | (apply Fills.cons; exact rfl; (first | assumption | exact rfl); exact rfl) | exact SetMany.nil | apply SetMany.cons | apply SetMany.succ)); done))) | (apply EvW.remP; exact rfl; exact rfl; omega; omega)))
          | refine WC.seq ?_ | refine WC.region ?_ | refine WL.nil ?_ | refine WE.next ?_ | refine WC.exit ?_ | refine WE.pass ?_ | refine WE.hit ?_ | refine WC.condT rfl ?_ | refine WC.condF rfl ?_
        try refine WL.wanted rfl rfl rfl ?_
        (apply WL.buildSlice; exact rfl; exact UndC.eq; exact SzC.eq; exact ZvC.eq; exact rfl; exact rfl; exact rfl; ((focus ((repeat (first | exact Flat.nil | (apply Flat.one; (first | exact rfl | assumption)) | (apply Flat.cons; exact rfl; exact rfl))); done))); exact rfl; exact rfl; intro c2)
        try refine WL.wanted rfl rfl rfl ?_
        (apply WL.append; exact rfl; exact rfl; exact rfl; exact UndC.eq; exact SzC.eq; exact ByC.eq; exact ZvC.eq; exact rfl; (first | exact notInt_sl UndC.eq | exact notInt_st UndC.eq); exact rfl; (focus ((repeat constructor); done)))
        · exact adds_blk .head rfl rfl
        · (omega)
        intro s2
        refine WL.ownEq (cs' := (ys ++ [opK 4]).flatMap op8C) (len' := (ys ++ [opK 4]).length) .head (by rw [List.length_append]; rfl) (by rw [List.flatMap_append]; rfl) ?_
        have hq2 : QOk (ys ++ [opK 4]) := hqy.snoc rfl rfl (Nat.zero_le _)
        have hl2 : (ys ++ [opK 4]).length ≤ 1 + 10 * i + 9 := by simp only [List.length_append, List.length_cons, List.length_nil]; omega
        generalize ys ++ [opK 4] = zs at hq2 hl2
        (first | refine WL.slOwn (v := s2) (by repeat constructor) ?_ | refine WC.slOwn (v := s2) (by repeat constructor) ?_)
        intro hc_s2 ho_s2
        by_cases h11 : (i : Int) % 11 = 5
        · repeat first
            | (apply WL.q; exact rfl; exact rfl; exact rfl; (first | (apply EvW.move; exact rfl) | (apply EvW.assign; exact rfl) | (apply EvW.cmpT; exact rfl; exact rfl; exact rfl; omega) | (apply EvW.build; exact PlC.eq; exact ZvC.eq; exact rfl; exact rfl; (focus ((repeat (first | exact Fills.nil | (apply Fills.cons; exact rfl; (first | assumption | exact rfl); exact rfl) | exact SetMany.nil | apply SetMany.cons | apply SetMany.succ)); done))) | (apply EvW.remP; exact rfl; exact rfl; omega; omega)))
            | refine WC.seq ?_ | refine WC.region ?_ | refine WL.nil ?_ | refine WE.next ?_ | refine WC.condT rfl ?_
          try refine WL.wanted rfl rfl rfl ?_
          (apply WL.buildSlice; exact rfl; exact UndC.eq; exact SzC.eq; exact ZvC.eq; exact rfl; exact rfl; exact rfl; ((focus ((repeat (first | exact Flat.nil | (apply Flat.one; (first | exact rfl | assumption)) | (apply Flat.cons; exact rfl; exact rfl))); done))); exact rfl; exact rfl; intro c3)
          try refine WL.wanted rfl rfl rfl ?_
          (apply WL.append; exact rfl; exact rfl; exact rfl; exact UndC.eq; exact SzC.eq; exact ByC.eq; exact ZvC.eq; exact rfl; (first | exact notInt_sl UndC.eq | exact notInt_st UndC.eq); exact rfl; (focus ((repeat constructor); done)))
          · exact adds_blk .head rfl rfl
          · (omega)
          intro s3
          refine WL.ownEq (cs' := (zs ++ [opK 3]).flatMap op8C) (len' := (zs ++ [opK 3]).length) .head (by rw [List.length_append]; rfl) (by rw [List.flatMap_append]; rfl) ?_
          repeat first
            | (apply WL.q; exact rfl; exact rfl; exact rfl; (first | (apply EvW.move; exact rfl) | (apply EvW.assign; exact rfl) | (apply EvW.arN; exact rfl; exact rfl; exact rfl; (first | (refine i64_in ?_ ?_ <;> omega) | (constructor <;> simp only [IntKind.min, IntKind.max, IntKind.signed, IntKind.bits, ↓reduceIte, Bool.false_eq_true] <;> omega)))))
            | refine WC.region ?_ | refine WL.nil ?_ | refine WE.next ?_ | refine WE.out ?_
          exact WE.again (s := (i, sv, xs)) ((i + 1, s3, zs ++ [opK 3])) ⟨by (simp only []; omega), by (simp only [List.length_append, List.length_cons, List.length_nil]; omega), hq2.snoc rfl rfl (Nat.zero_le _)⟩ (by (focus ((repeat (first | exact trivial | (refine ⟨rfl, ?_⟩))); done))) (fun _ h => (by (try simp only []); exact h.keep (by repeat constructor))) (by (try simp only []); omega)
        · repeat first
            | (apply WL.q; exact rfl; exact rfl; exact rfl; (first | (apply EvW.move; exact rfl) | (apply EvW.assign; exact rfl) | (apply EvW.cmpF; exact rfl; exact rfl; exact rfl; omega) | (apply EvW.arN; exact rfl; exact rfl; exact rfl; (first | (refine i64_in ?_ ?_ <;> omega) | (constructor <;> simp only [IntKind.min, IntKind.max, IntKind.signed, IntKind.bits, ↓reduceIte, Bool.false_eq_true] <;> omega))) | (apply EvW.remP; exact rfl; exact rfl; omega; omega)))
            | refine WC.seq ?_ | refine WC.region ?_ | refine WL.nil ?_ | refine WE.next ?_ | refine WC.skip ?_ | refine WE.out ?_ | refine WC.condF rfl ?_
          exact WE.again (s := (i, sv, xs)) ((i + 1, s2, zs)) ⟨by (simp only []; omega), by (simp only []; omega), hq2⟩ (by (focus ((repeat (first | exact trivial | (refine ⟨rfl, ?_⟩))); done))) (fun _ h => (by (try simp only []); exact h.keep (by repeat constructor))) (by (try simp only []); omega)
      · by_cases h11 : (i : Int) % 11 = 5
        · repeat first
            | (apply WL.q; exact rfl; exact rfl; exact rfl; (first | (apply EvW.move; exact rfl) | (apply EvW.cmpT; exact rfl; exact rfl; exact rfl; omega) | (apply EvW.cmpF; exact rfl; exact rfl; exact rfl; omega) | (apply EvW.build; exact PlC.eq; exact ZvC.eq; exact rfl; exact rfl; (focus ((repeat (first | exact Fills.nil | (apply Fills.cons; exact rfl; (first | assumption | exact rfl); exact rfl) | exact SetMany.nil | apply SetMany.cons | apply SetMany.succ)); done))) | (apply EvW.remP; exact rfl; exact rfl; omega; omega)))
            | refine WC.seq ?_ | refine WC.region ?_ | refine WL.nil ?_ | refine WE.next ?_ | refine WC.skip ?_ | refine WC.exit ?_ | refine WE.pass ?_ | refine WE.hit ?_ | refine WC.condT rfl ?_ | refine WC.condF rfl ?_
          try refine WL.wanted rfl rfl rfl ?_
          (apply WL.buildSlice; exact rfl; exact UndC.eq; exact SzC.eq; exact ZvC.eq; exact rfl; exact rfl; exact rfl; ((focus ((repeat (first | exact Flat.nil | (apply Flat.one; (first | exact rfl | assumption)) | (apply Flat.cons; exact rfl; exact rfl))); done))); exact rfl; exact rfl; intro c3)
          try refine WL.wanted rfl rfl rfl ?_
          (apply WL.append; exact rfl; exact rfl; exact rfl; exact UndC.eq; exact SzC.eq; exact ByC.eq; exact ZvC.eq; exact rfl; (first | exact notInt_sl UndC.eq | exact notInt_st UndC.eq); exact rfl; (focus ((repeat constructor); done)))
          · exact adds_blk .head rfl rfl
          · (omega)
          intro s3
          refine WL.ownEq (cs' := (ys ++ [opK 3]).flatMap op8C) (len' := (ys ++ [opK 3]).length) .head (by rw [List.length_append]; rfl) (by rw [List.flatMap_append]; rfl) ?_
          repeat first
            | (apply WL.q; exact rfl; exact rfl; exact rfl; (first | (apply EvW.move; exact rfl) | (apply EvW.assign; exact rfl) | (apply EvW.arN; exact rfl; exact rfl; exact rfl; (first | (refine i64_in ?_ ?_ <;> omega) | (constructor <;> simp only [IntKind.min, IntKind.max, IntKind.signed, IntKind.bits, ↓reduceIte, Bool.false_eq_true] <;> omega)))))
            | refine WC.region ?_ | refine WL.nil ?_ | refine WE.next ?_ | refine WE.out ?_
          exact WE.again (s := (i, sv, xs)) ((i + 1, s3, ys ++ [opK 3])) ⟨by (simp only []; omega), by (simp only [List.length_append, List.length_cons, List.length_nil]; omega), hqy.snoc rfl rfl (Nat.zero_le _)⟩ (by (focus ((repeat (first | exact trivial | (refine ⟨rfl, ?_⟩))); done))) (fun _ h => (by (try simp only []); exact h.keep (by repeat constructor))) (by (try simp only []); omega)
        · repeat first
            | (apply WL.q; exact rfl; exact rfl; exact rfl; (first | (apply EvW.move; exact rfl) | (apply EvW.assign; exact rfl) | (apply EvW.cmpF; exact rfl; exact rfl; exact rfl; omega) | (apply EvW.arN; exact rfl; exact rfl; exact rfl; (first | (refine i64_in ?_ ?_ <;> omega) | (constructor <;> simp only [IntKind.min, IntKind.max, IntKind.signed, IntKind.bits, ↓reduceIte, Bool.false_eq_true] <;> omega))) | (apply EvW.remP; exact rfl; exact rfl; omega; omega)))
            | refine WC.seq ?_ | refine WC.region ?_ | refine WL.nil ?_ | refine WE.next ?_ | refine WC.skip ?_ | refine WC.exit ?_ | refine WE.pass ?_ | refine WE.hit ?_ | refine WE.out ?_ | refine WC.condF rfl ?_
          exact WE.again (s := (i, sv, xs)) ((i + 1, sw, ys)) ⟨by (simp only []; omega), by (simp only []; omega), hqy⟩ (by (focus ((repeat (first | exact trivial | (refine ⟨rfl, ?_⟩))); done))) (fun _ h => (by (try simp only []); exact h.keep (by repeat constructor))) (by (try simp only []); omega)
  · repeat first
      | (apply WL.q; exact rfl; exact rfl; exact rfl; (first | (apply EvW.move; exact rfl) | (apply EvW.cmpF; exact rfl; exact rfl; exact rfl; omega)))
      | refine WC.seq ?_ | refine WC.region ?_ | refine WL.nil ?_ | refine WE.next ?_ | refine WC.exit ?_ | refine WE.pass ?_ | refine WE.hit ?_ | refine WC.condF rfl ?_
    try refine WL.wanted rfl rfl rfl ?_
    apply WL.callA ([])
    · exact rfl
    · exact rfl
    · exact fun w => Try.call16 _ w
    · (focus ((repeat constructor); done))
    · exact fun w1 S1 hS1 hs1 ho1 => play_spec sv xs w1 S1 hS1 (ho1 (.own 50 4 (sv) (xs).length ((xs).flatMap op8C)) _ (by repeat constructor)).own (by omega) (hq.ok _ _)
    rintro _ _ ⟨rfl, rfl⟩
    first | refine WL.app4 ?_ | refine WL.app3 ?_ | refine WL.app2 ?_ | refine WL.app1 ?_ | refine WL.app0 ?_ | skip
    repeat first
      | (apply WL.q; exact rfl; exact rfl; exact rfl; (first | (apply EvW.assign; exact rfl)))
      | refine WL.nil ?_ | refine WE.next ?_ | refine WC.ret ?_
    refine WE.keep (xs := []) (by repeat constructor) ?_
    refine WE.ret1 rfl rfl ?_
    rfl
end Go.Proofs.Ytknclcjmfgdphaa
namespace Go.Proofs.Ytknclcjmfgdphaa
open Go.RowKit Go.BK
theorem Try.own : ownKnob Try.prog.godebug = none := by kernel_rfl
theorem Try.laidOut : laidOutB Try.prog = true := by kernel_rfl
end Go.Proofs.Ytknclcjmfgdphaa
namespace Go.Proofs.Ytknclcjmfgdphaa
open Go.ChangeShapes Go.WideShapes Go.ChangeAt Go.RowKit Go.BK
set_option maxRecDepth 100000 in
theorem journalQuiet_lifted (os : Os) (started : os.Started) (H : Type) (enc : TypeId × Value → H) :
    ReturnsInHanded {} Try.checked os 7 .any (Rows.journalQuietSpec.pre6 enc Try.prog Try.f7 Rows.journalQuietRow.domain false) (Rows.journalQuietSpec.post enc Try.prog Try.f7 false true false false) := by
  refine law_lifted (C := Try.checked) (s := Rows.journalQuietSpec) (tb := 4) Try.own started (by kernel_rfl) Try.func7 rfl Try.underlying4 rfl Try.laidOut (by kernel_rfl) (by intro ds h; match ds, h with | [d1, d2, d3], _ => rfl)
    (ChangeSpec.witness6 (enc := enc) (C := Try.checked) false ⟨#[], #[.string ⟨#[]⟩, .slice none 0 0, .int .i64 0], []⟩ 8 (by kernel_rfl) (by kernel_rfl) (by kernel_rfl) (by kernel_rfl)) ?_
  intro W base args ds p hval hA0 hsz0
  have hA : DataW.TrodAll enc Try.prog W 0 (fun _ => true) true Try.f7.params.toList args.toList ds p := hA0
  have hsz : (DataW.weightsEach Try.prog Try.f7.params.toList ds).all (· ≤ reachBytes) = true := hsz0
  rw [Try.params7] at hA hsz hval
  clear hA0 hsz0
  obtain ⟨v0, v1, v2, d0, d1, d2, p0, p1, p2, rfl, rfl, rfl, h0, h1, h2⟩ := trodAll_three hA
  obtain ⟨f, rfl, hf⟩ := arg_str (j := 0) Try.underlying9 (hval 0 9 v0 rfl rfl) h0 hsz rfl rfl
  obtain ⟨ts, ht, hts, htb⟩ := arg_slice (j := 1) (sz := 1) Try.underlying22 (by kernel_rfl) (by decide) (fun _ => rfl) (Opens.str Try.underlying9) (hval 1 22 v1 rfl rfl) h1 hsz rfl rfl
  have hb1 : Try.prog.bytesOf 9 = 16 := by kernel_rfl
  rw [hb1] at htb
  rw [flat_one] at ht
  obtain ⟨y, rfl, rfl, rfl, wy⟩ := open_int Try.underlying3 (hval 2 3 v2 rfl rfl) h2
  exact (journalQuiet_law f v1 ts y W _ (fun _ h => h) (by omega) ht (by omega) (fun s hs => Nat.le_trans (hts s hs) (by decide))).law (fun _ _ h => h)
theorem journalQuiet_holds : Rows.JournalQuietSaid :=
  OpenClaim.holds_of_wide 7 Try.f7 rfl rfl rfl rfl rfl rfl rfl ⟨rfl, rfl, rfl, rfl, rfl⟩ rfl rfl rfl rfl rfl (by kernel_rfl) Try.func7 (by kernel_rfl)
    (of_decide_eq_true (by kernel_rfl)) (by unfold Func.isWrapper; first | (rw [if_pos (by decide +kernel)]; kernel_rfl) | (rw [if_neg (by decide +kernel)]; exact ⟨rfl, rfl⟩))
    (fun os started H enc _ => journalQuiet_lifted os started H enc)
end Go.Proofs.Ytknclcjmfgdphaa
