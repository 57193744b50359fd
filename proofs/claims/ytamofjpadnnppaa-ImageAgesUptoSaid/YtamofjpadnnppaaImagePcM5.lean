/- ImageAges holds for every input of bulk at most 1048576: what a controller told once is seen as it was told while it is at most the age old, and from then on as nothing valid; other controllers are silent all the while. Condition: the bulk of the second form. -/
import Derived.Test.YtamofjpadnnppaaImagePcM4
namespace Go.Proofs.Ytamofjpadnnppaa
open Go.RowKit Go.BK
set_option maxHeartbeats 4000000 in
set_option maxRecDepth 8000 in
theorem imageAges_law (g : Cfg) (oc0 late0 : Int) (w : World) (S : BSet) (hS : (sepL []).sat S w) (hg : g.Seen w S) (hsm : g.Small) :
    Tri Try.prog 4 #[.agg (cfgC g).toArray, i64 oc0, i64 late0] w S fun u A => u = .bool true := by
  refine Tri.enter (l := [.agg (cfgC g).toArray, i64 oc0, i64 late0]) Try.func4 rfl Try.ntmps4 rfl [(0, .agg (cfgC g).toArray), (1, i64 oc0), (2, i64 late0)] (subA rfl) hS ?_
  have hgs := hg.secs
  have hsmS := hsm.s
  obtain ⟨oc, hoc, ho0⟩ : ∃ s : Int, IntKind.u64.wrap oc0 % 4 = s ∧ (0 ≤ s ∧ s < 4) := ⟨_, rfl, by omega, by omega⟩
  obtain ⟨late, hla, hl0⟩ : ∃ s : Int, IntKind.u64.wrap late0 % 30 = s ∧ (0 ≤ s ∧ s < 30) := ⟨_, rfl, by omega, by omega⟩
  repeat first
    | refine WC.seq ?_ | refine WC.region ?_
  try refine WL.wanted rfl rfl rfl ?_
  (apply WL.box; exact rfl; exact rfl; exact rfl; intro q0)
  repeat first
    | (apply WL.q; exact rfl; exact rfl; exact rfl; (first | (apply EvW.assign; exact rfl)))
    | refine WC.seq ?_ | refine WC.region ?_ | refine WL.nil ?_ | refine WE.next ?_
  try refine WL.wanted rfl rfl rfl ?_
  apply WL.callA ([])
  · exact rfl
  · exact rfl
  · exact fun w => Try.call7 _ w
  · (focus ((repeat constructor); done))
  · exact fun w1 S1 hS1 hs1 ho1 => lives11_spec w1 S1 hS1
  rintro _ _ ⟨rfl, rfl⟩
  first | refine WL.app4 ?_ | refine WL.app3 ?_ | refine WL.app2 ?_ | refine WL.app1 ?_ | refine WL.app0 ?_ | skip
  repeat first
    | (apply WL.q; exact rfl; exact rfl; exact rfl; (first | (apply EvW.move; exact rfl) | (apply EvW.assign; exact rfl) | (apply EvW.convN; exact rfl; exact UndC.eq; exact UndC.eq; (first | (refine i64_in ?_ ?_ <;> omega) | (constructor <;> simp only [IntKind.min, IntKind.max, IntKind.signed, IntKind.bits, ↓reduceIte, Bool.false_eq_true] <;> omega))) | (apply EvW.conv; exact rfl; exact UndC.eq; exact UndC.eq) | (apply EvW.notT; exact rfl) | (apply EvW.loadAgg; exact rfl; exact AggC.eq; exact SzC.eq; (focus ((repeat constructor); done)); (focus ((repeat (first | exact SubL.nil | apply SubL.cons | apply SubL.succ)); done))) | (apply EvW.remW; exact rfl; exact rfl; exact rfl; omega)))
    | refine WC.seq ?_ | refine WC.region ?_ | refine WL.nil ?_ | refine WE.next ?_ | refine WC.skip ?_ | refine WC.condF rfl ?_
  rw [hoc, hla]
  clear hoc hla
  try refine WL.wanted rfl rfl rfl ?_
  apply WL.callA ([])
  · exact rfl
  · exact rfl
  · exact fun w => Try.call12 _ w
  · (focus ((repeat constructor); done))
  · exact fun w1 S1 hS1 hs1 ho1 => rshape_spec g oc w1 S1 hS1 (hg.down hs1)
  rintro _ _ ⟨a, b, d, e, rfl, rfl⟩
  first | refine WL.app4 ?_ | refine WL.app3 ?_ | refine WL.app2 ?_ | refine WL.app1 ?_ | refine WL.app0 ?_ | skip
  skip
  try refine WL.wanted rfl rfl rfl ?_
  (apply WL.alloc; exact rfl; exact ZvC.eq; exact rfl; intro hb)
  (first | refine WL.slOwn (v := a) (by repeat constructor) ?_ | refine WC.slOwn (v := a) (by repeat constructor) ?_)
  intro hc_a ho_a
  (first | refine WL.slOwn (v := b) (by repeat constructor) ?_ | refine WC.slOwn (v := b) (by repeat constructor) ?_)
  intro hc_b ho_b
  (first | refine WL.slOwn (v := d) (by repeat constructor) ?_ | refine WC.slOwn (v := d) (by repeat constructor) ?_)
  intro hc_d ho_d
  (first | refine WL.slOwn (v := e) (by repeat constructor) ?_ | refine WC.slOwn (v := e) (by repeat constructor) ?_)
  intro hc_e ho_e
  have hall : ([a, b, d, e] : List Value).all (·.oneCell') = true := by
    simp at ho_a ho_b ho_d ho_e
    simp [ho_a, ho_b, ho_d, ho_e]
  clear hc_a hc_b hc_d hc_e ho_a ho_b ho_d ho_e
  have hP := lP_le g oc
  by_cases b0 : ((g.lS oc).length : Int) = 0
  · repeat first
      | (apply WL.q; exact rfl; exact rfl; exact rfl; (first | (apply EvW.move; exact rfl) | (apply EvW.assign; exact rfl) | (apply EvW.fieldAddr0; exact rfl; exact FldC.eq) | (apply EvW.load; exact rfl; exact ScalC.eq; (focus ((repeat constructor); done)); exact rfl) | (apply EvW.cmpT; exact rfl; exact rfl; exact rfl; omega) | (apply EvW.pickT; exact rfl; exact rfl) | (apply EvW.lenOwn; exact rfl; exact UndC.eq; (focus ((repeat constructor); done)))))
      | refine WC.seq ?_ | refine WC.region ?_ | refine WL.nil ?_ | refine WE.next ?_ | refine WC.condT rfl ?_ | refine WC.ret ?_ | refine WE.passRet ?_ | refine WL.unwanted rfl rfl rfl rfl ?_ | (apply WL.store; exact rfl; exact rfl; (first | assumption | exact rfl); exact SzC.eq; (first | assumption | exact rfl); (focus ((repeat constructor); done)))
    refine WE.bare ?_
    refine WE.ret1 rfl rfl ?_
    rfl
  by_cases b1 : g.age < 1
  · repeat first
      | (apply WL.q; exact rfl; exact rfl; exact rfl; (first | (apply EvW.move; exact rfl) | (apply EvW.assign; exact rfl) | (apply EvW.fieldAddr0; exact rfl; exact FldC.eq) | (apply EvW.fieldAddr; exact rfl; exact FldC.eq) | (apply EvW.load; exact rfl; exact ScalC.eq; (focus ((repeat constructor); done)); exact rfl) | (apply EvW.cmpT; exact rfl; exact rfl; exact rfl; omega) | (apply EvW.cmpF; exact rfl; exact rfl; exact rfl; omega) | (apply EvW.pickT; exact rfl; exact rfl) | (apply EvW.pickF; exact rfl; exact rfl) | (apply EvW.lenOwn; exact rfl; exact UndC.eq; (focus ((repeat constructor); done)))))
      | refine WC.seq ?_ | refine WC.region ?_ | refine WL.nil ?_ | refine WE.next ?_ | refine WC.condT rfl ?_ | refine WC.ret ?_ | refine WE.passRet ?_ | refine WL.wanted rfl rfl rfl ?_ | refine WL.unwanted rfl rfl rfl rfl ?_ | (apply WL.store; exact rfl; exact rfl; (first | assumption | exact rfl); exact SzC.eq; (first | assumption | exact rfl); (focus ((repeat constructor); done)))
    refine WE.bare ?_
    refine WE.ret1 rfl rfl ?_
    rfl
  by_cases b2 : 8 < g.age
  · repeat first
      | (apply WL.q; exact rfl; exact rfl; exact rfl; (first | (apply EvW.move; exact rfl) | (apply EvW.assign; exact rfl) | (apply EvW.fieldAddr0; exact rfl; exact FldC.eq) | (apply EvW.fieldAddr; exact rfl; exact FldC.eq) | (apply EvW.load; exact rfl; exact ScalC.eq; (focus ((repeat constructor); done)); exact rfl) | (apply EvW.cmpT; exact rfl; exact rfl; exact rfl; omega) | (apply EvW.cmpF; exact rfl; exact rfl; exact rfl; omega) | (apply EvW.pickT; exact rfl; exact rfl) | (apply EvW.pickF; exact rfl; exact rfl) | (apply EvW.lenOwn; exact rfl; exact UndC.eq; (focus ((repeat constructor); done)))))
      | refine WC.seq ?_ | refine WC.region ?_ | refine WL.nil ?_ | refine WE.next ?_ | refine WC.condT rfl ?_ | refine WC.ret ?_ | refine WE.passRet ?_ | refine WL.wanted rfl rfl rfl ?_ | refine WL.unwanted rfl rfl rfl rfl ?_ | (apply WL.store; exact rfl; exact rfl; (first | assumption | exact rfl); exact SzC.eq; (first | assumption | exact rfl); (focus ((repeat constructor); done)))
    refine WE.bare ?_
    refine WE.ret1 rfl rfl ?_
    rfl
  by_cases b3 : 200 < ((g.lS oc).length : Int)
  · repeat first
      | (apply WL.q; exact rfl; exact rfl; exact rfl; (first | (apply EvW.move; exact rfl) | (apply EvW.assign; exact rfl) | (apply EvW.fieldAddr0; exact rfl; exact FldC.eq) | (apply EvW.fieldAddr; exact rfl; exact FldC.eq) | (apply EvW.load; exact rfl; exact ScalC.eq; (focus ((repeat constructor); done)); exact rfl) | (apply EvW.cmpT; exact rfl; exact rfl; exact rfl; omega) | (apply EvW.cmpF; exact rfl; exact rfl; exact rfl; omega) | (apply EvW.pickT; exact rfl; exact rfl) | (apply EvW.pickF; exact rfl; exact rfl) | (apply EvW.lenOwn; exact rfl; exact UndC.eq; (focus ((repeat constructor); done)))))
      | refine WC.seq ?_ | refine WC.region ?_ | refine WL.nil ?_ | refine WE.next ?_ | refine WC.condT rfl ?_ | refine WC.ret ?_ | refine WE.passRet ?_ | refine WL.wanted rfl rfl rfl ?_ | refine WL.unwanted rfl rfl rfl rfl ?_ | (apply WL.store; exact rfl; exact rfl; (first | assumption | exact rfl); exact SzC.eq; (first | assumption | exact rfl); (focus ((repeat constructor); done)))
    refine WE.bare ?_
    refine WE.ret1 rfl rfl ?_
    rfl
  by_cases b4 : 200 < ((g.lG oc).length : Int)
  · repeat first
      | (apply WL.q; exact rfl; exact rfl; exact rfl; (first | (apply EvW.move; exact rfl) | (apply EvW.assign; exact rfl) | (apply EvW.fieldAddr0; exact rfl; exact FldC.eq) | (apply EvW.fieldAddr; exact rfl; exact FldC.eq) | (apply EvW.load; exact rfl; exact ScalC.eq; (focus ((repeat constructor); done)); exact rfl) | (apply EvW.cmpT; exact rfl; exact rfl; exact rfl; omega) | (apply EvW.cmpF; exact rfl; exact rfl; exact rfl; omega) | (apply EvW.pickT; exact rfl; exact rfl) | (apply EvW.pickF; exact rfl; exact rfl) | (apply EvW.lenOwn; exact rfl; exact UndC.eq; (focus ((repeat constructor); done)))))
      | refine WC.seq ?_ | refine WC.region ?_ | refine WL.nil ?_ | refine WE.next ?_ | refine WC.condT rfl ?_ | refine WC.ret ?_ | refine WE.passRet ?_ | refine WL.wanted rfl rfl rfl ?_ | refine WL.unwanted rfl rfl rfl rfl ?_ | (apply WL.store; exact rfl; exact rfl; (first | assumption | exact rfl); exact SzC.eq; (first | assumption | exact rfl); (focus ((repeat constructor); done)))
    refine WE.bare ?_
    refine WE.ret1 rfl rfl ?_
    rfl
  by_cases b5 : 200 < ((g.lC oc).length : Int)
  · repeat first
      | (apply WL.q; exact rfl; exact rfl; exact rfl; (first | (apply EvW.move; exact rfl) | (apply EvW.assign; exact rfl) | (apply EvW.fieldAddr0; exact rfl; exact FldC.eq) | (apply EvW.fieldAddr; exact rfl; exact FldC.eq) | (apply EvW.load; exact rfl; exact ScalC.eq; (focus ((repeat constructor); done)); exact rfl) | (apply EvW.cmpT; exact rfl; exact rfl; exact rfl; omega) | (apply EvW.cmpF; exact rfl; exact rfl; exact rfl; omega) | (apply EvW.pickF; exact rfl; exact rfl) | (apply EvW.lenOwn; exact rfl; exact UndC.eq; (focus ((repeat constructor); done)))))
      | refine WC.seq ?_ | refine WC.region ?_ | refine WL.nil ?_ | refine WE.next ?_ | refine WC.condT rfl ?_ | refine WC.ret ?_ | refine WE.passRet ?_ | refine WL.wanted rfl rfl rfl ?_ | (apply WL.store; exact rfl; exact rfl; (first | assumption | exact rfl); exact SzC.eq; (first | assumption | exact rfl); (focus ((repeat constructor); done)))
    refine WE.bare ?_
    refine WE.ret1 rfl rfl ?_
    rfl
  repeat first
    | (apply WL.q; exact rfl; exact rfl; exact rfl; (first | (apply EvW.move; exact rfl) | (apply EvW.fieldAddr0; exact rfl; exact FldC.eq) | (apply EvW.fieldAddr; exact rfl; exact FldC.eq) | (apply EvW.load; exact rfl; exact ScalC.eq; (focus ((repeat constructor); done)); exact rfl) | (apply EvW.cmpF; exact rfl; exact rfl; exact rfl; omega) | (apply EvW.pickF; exact rfl; exact rfl) | (apply EvW.lenOwn; exact rfl; exact UndC.eq; (focus ((repeat constructor); done)))))
    | refine WC.seq ?_ | refine WC.region ?_ | refine WL.nil ?_ | refine WE.next ?_ | refine WC.skip ?_ | refine WC.condF rfl ?_ | refine WL.wanted rfl rfl rfl ?_ | (apply WL.store; exact rfl; exact rfl; (first | assumption | exact rfl); exact SzC.eq; (first | assumption | exact rfl); (focus ((repeat constructor); done)))
  repeat refine WC.seq ?_
  refine WC.keep (xs := [.blk q0 (cfgC g).toArray 30, .blk hb #[a, b, d, e] 51, .own 3 1 (a) (g.lS oc).length ((g.lS oc).map i64), .own 3 1 (b) (g.lP oc).length ((g.lP oc).map i64), .own 3 1 (d) (g.lC oc).length ((g.lC oc).map i64), .own 3 1 (e) (g.lG oc).length ((g.lG oc).map i64)]) (by repeat constructor) ?_
  apply WC.par _ (fun c : Ch => [.blk q0 (cfgC g).toArray 30, .blk hb #[a, b, d, e] 51, .own 3 1 (a) (g.lS oc).length ((g.lS oc).map i64), .own 3 1 (b) (g.lP oc).length ((g.lP oc).map i64), .own 3 1 (d) (g.lC oc).length ((g.lC oc).map i64), .own 3 1 (e) (g.lG oc).length ((g.lG oc).map i64), .own 3 1 ((c 3).2) (g.lS oc).length (List.replicate (g.lS oc).length (i64 0)), .own 3 1 ((c 7).2) (g.lP oc).length (List.replicate (g.lP oc).length (i64 0)), .own 3 1 ((c 11).2) (g.lC oc).length (List.replicate (g.lC oc).length (i64 0)), .own 3 1 ((c 15).2) (g.lG oc).length (List.replicate (g.lG oc).length (i64 0)), .blk (c 17).1 #[(.slice none 0 0), (.slice none 0 0), (.slice none 0 0), (.slice none 0 0)] 54, .blk (c 17).1 #[(c 3).2, (c 7).2, (c 11).2, (c 15).2] 54]) [none, none, none, none, none, none, some 3, some 7, some 11, some 15, some 17, some 18] [none, none, none, none, none, none, none, none, none, none, some 18, none] [(3, fun x => x.2), (7, fun x => x.2), (11, fun x => x.2), (15, fun x => x.2), (17, fun x => ptr x.1 0)] Try.mixed
  · (focus ((repeat (first | exact Restr.nil | (apply Restr.keep; exact rfl; exact rfl) | (apply Restr.drop; exact rfl))); done))
  · intro c; exact (by repeat constructor)
  · exact rfl
  · decide +kernel
  · decide +kernel
  · intro c
    (apply Par.quiet _ [true, true, true, true, true, true, false, false, false, false, false, false]; exact rfl; decide +kernel; exact rfl; intro R; refine ⟨_, (by repeat constructor), ?_⟩;
         (first | (apply EvW.fieldAddr0; exact rfl; exact FldC.eq)))
    (apply Par.quiet _ [true, true, true, true, true, true, false, false, false, false, false, false]; exact rfl; decide +kernel; exact rfl; intro R; refine ⟨_, (by repeat constructor), ?_⟩;
         (first | (apply EvW.load; exact rfl; exact ScalC.eq; (focus ((repeat constructor); done)); exact rfl)))
    (apply Par.quiet _ [true, true, true, true, true, true, false, false, false, false, false, false]; exact rfl; decide +kernel; exact rfl; intro R; refine ⟨_, (by repeat constructor), ?_⟩;
         (first | (apply EvW.lenOwn; exact rfl; exact UndC.eq; (focus ((repeat constructor); done)))))
    apply Par.new _ [false, false, false, false, false, false, false, false, false, false, false, false] [false, false, false, false, false, false, true, false, false, false, false, false] [true, true, true, true, true, true, false, false, false, false, false, false]
    · exact rfl
    · exact rfl
    · decide +kernel
    · intro R
      refine ⟨_, _, _, (by repeat constructor), (by repeat constructor), (fun x => (by repeat constructor)), ?_⟩
      (apply NewW.make1; exact rfl; exact rfl; exact UndC.eq; exact SzC.eq; exact ByC.eq; exact ZvC.eq; exact rfl; omega; omega; (simp only [Int.toNat_natCast]; omega); exact fun _ => rfl)
    (apply Par.quiet _ [true, true, true, true, true, true, false, false, false, false, false, false]; exact rfl; decide +kernel; exact rfl; intro R; refine ⟨_, (by repeat constructor), ?_⟩;
         (first | (apply EvW.fieldAddr0; exact rfl; exact FldC.eq)))
    (apply Par.quiet _ [true, true, true, true, true, true, false, false, false, false, false, false]; exact rfl; decide +kernel; exact rfl; intro R; refine ⟨_, (by repeat constructor), ?_⟩;
         (first | (apply EvW.load; exact rfl; exact ScalC.eq; (focus ((repeat constructor); done)); exact rfl)))
    (apply Par.quiet _ [true, true, true, true, true, true, false, false, false, false, false, false]; exact rfl; decide +kernel; exact rfl; intro R; refine ⟨_, (by repeat constructor), ?_⟩;
         (first | (apply EvW.lenOwn; exact rfl; exact UndC.eq; (focus ((repeat constructor); done)))))
    apply Par.new _ [false, false, false, false, false, false, false, false, false, false, false, false] [false, false, false, false, false, false, false, true, false, false, false, false] [true, true, true, true, true, true, false, false, false, false, false, false]
    · exact rfl
    · exact rfl
    · decide +kernel
    · intro R
      refine ⟨_, _, _, (by repeat constructor), (by repeat constructor), (fun x => (by repeat constructor)), ?_⟩
      (apply NewW.make1; exact rfl; exact rfl; exact UndC.eq; exact SzC.eq; exact ByC.eq; exact ZvC.eq; exact rfl; omega; omega; (simp only [Int.toNat_natCast]; omega); exact fun _ => rfl)
    (apply Par.quiet _ [true, true, true, true, true, true, false, false, false, false, false, false]; exact rfl; decide +kernel; exact rfl; intro R; refine ⟨_, (by repeat constructor), ?_⟩;
         (first | (apply EvW.fieldAddr0; exact rfl; exact FldC.eq)))
    (apply Par.quiet _ [true, true, true, true, true, true, false, false, false, false, false, false]; exact rfl; decide +kernel; exact rfl; intro R; refine ⟨_, (by repeat constructor), ?_⟩;
         (first | (apply EvW.load; exact rfl; exact ScalC.eq; (focus ((repeat constructor); done)); exact rfl)))
    (apply Par.quiet _ [true, true, true, true, true, true, false, false, false, false, false, false]; exact rfl; decide +kernel; exact rfl; intro R; refine ⟨_, (by repeat constructor), ?_⟩;
         (first | (apply EvW.lenOwn; exact rfl; exact UndC.eq; (focus ((repeat constructor); done)))))
    apply Par.new _ [false, false, false, false, false, false, false, false, false, false, false, false] [false, false, false, false, false, false, false, false, true, false, false, false] [true, true, true, true, true, true, false, false, false, false, false, false]
    · exact rfl
    · exact rfl
    · decide +kernel
    · intro R
      refine ⟨_, _, _, (by repeat constructor), (by repeat constructor), (fun x => (by repeat constructor)), ?_⟩
      (apply NewW.make1; exact rfl; exact rfl; exact UndC.eq; exact SzC.eq; exact ByC.eq; exact ZvC.eq; exact rfl; omega; omega; (simp only [Int.toNat_natCast]; omega); exact fun _ => rfl)
    (apply Par.quiet _ [true, true, true, true, true, true, false, false, false, false, false, false]; exact rfl; decide +kernel; exact rfl; intro R; refine ⟨_, (by repeat constructor), ?_⟩;
         (first | (apply EvW.fieldAddr0; exact rfl; exact FldC.eq)))
    (apply Par.quiet _ [true, true, true, true, true, true, false, false, false, false, false, false]; exact rfl; decide +kernel; exact rfl; intro R; refine ⟨_, (by repeat constructor), ?_⟩;
         (first | (apply EvW.load; exact rfl; exact ScalC.eq; (focus ((repeat constructor); done)); exact rfl)))
    (apply Par.quiet _ [true, true, true, true, true, true, false, false, false, false, false, false]; exact rfl; decide +kernel; exact rfl; intro R; refine ⟨_, (by repeat constructor), ?_⟩;
         (first | (apply EvW.lenOwn; exact rfl; exact UndC.eq; (focus ((repeat constructor); done)))))
    apply Par.new _ [false, false, false, false, false, false, false, false, false, false, false, false] [false, false, false, false, false, false, false, false, false, true, false, false] [true, true, true, true, true, true, false, false, false, false, false, false]
    · exact rfl
    · exact rfl
    · decide +kernel
    · intro R
      refine ⟨_, _, _, (by repeat constructor), (by repeat constructor), (fun x => (by repeat constructor)), ?_⟩
      (apply NewW.make1; exact rfl; exact rfl; exact UndC.eq; exact SzC.eq; exact ByC.eq; exact ZvC.eq; exact rfl; omega; omega; (simp only [Int.toNat_natCast]; omega); exact fun _ => rfl)
    apply Par.quiet _ [true, true, true, true, true, true, true, true, true, true, false, false]
    · exact rfl
    · decide +kernel
    · exact rfl
    · intro R
      refine ⟨_, (by repeat constructor), ?_⟩
      (apply EvW.slOwn ((c 3).2); (focus ((repeat constructor); done)); intro h2 _; apply EvW.slOwn ((c 7).2); (focus ((repeat constructor); done)); intro h5 _; apply EvW.slOwn ((c 11).2); (focus ((repeat constructor); done)); intro h8 _; apply EvW.slOwn ((c 15).2); (focus ((repeat constructor); done)); intro h9 _; apply EvW.build; exact PlC.eq; exact ZvC.eq; exact rfl; exact rfl; (focus ((repeat (first | exact Fills.nil | (apply Fills.cons; exact rfl; (first | assumption | exact rfl); exact rfl) | exact SetMany.nil | apply SetMany.cons | apply SetMany.succ)); done)))
    (apply Par.new _ [false, false, false, false, false, false, false, false, false, false, false, false] [false, false, false, false, false, false, false, false, false, false, true, false] [true, true, true, true, true, true, false, false, false, false, false, false]; exact rfl; exact rfl; decide +kernel; intro R; refine ⟨_, _, _, (by repeat constructor), (by repeat constructor), (fun x => (by repeat constructor)), ?_⟩; (apply NewW.alloc; exact ZvC.eq; exact rfl; exact fun _ => rfl))
    apply Par.eff _ [false, false, false, false, false, false, false, false, false, false, true, false] [false, false, false, false, false, false, false, false, false, false, false, true] [true, true, true, true, true, true, true, true, true, true, false, false]
    · exact rfl
    · exact rfl
    · decide +kernel
    · intro R
      refine ⟨_, _, _, (by repeat constructor), (by repeat constructor), (by repeat constructor), ?_⟩
      (apply EffW.slOwn ((c 3).2); (focus ((repeat constructor); done)); intro _ h2; apply EffW.slOwn ((c 7).2); (focus ((repeat constructor); done)); intro _ h5; apply EffW.slOwn ((c 11).2); (focus ((repeat constructor); done)); intro _ h8; apply EffW.slOwn ((c 15).2); (focus ((repeat constructor); done)); intro _ h9; (apply EffW.store; exact rfl; exact rfl; exact rfl; exact SzC.eq; (simp [h2, h5, h8, h9]); (focus ((repeat constructor); done))))
    exact Par.nil
  · repeat (first | exact AllN.nil | (apply AllN.cons; (intro c x; (repeat (first | exact IndA.nil | (apply IndA.skip; decide +kernel) | apply IndA.same))))) 
  · repeat (first | exact AllN.nil | (apply AllN.cons; (intro c x; (repeat (first | exact IndT.nil | (apply IndT.skip; decide +kernel) | apply IndT.same))))) 
  · exact fun _ => rfl
  intro c
  refine ⟨_, (by repeat constructor), ?_⟩
  apply WE.writ
  · (focus ((repeat (first | exact Writ.nil | apply Writ.some | apply Writ.none)); done))
  generalize (c 17).1 = b17
  generalize (c 3).2 = sa
  generalize (c 7).2 = sb
  generalize (c 11).2 = sy
  generalize (c 15).2 = sd
  refine WE.keep (xs := [.blk q0 (cfgC g).toArray 30, .blk hb #[a, b, d, e] 51, .own 3 1 (a) (g.lS oc).length ((g.lS oc).map i64), .own 3 1 (b) (g.lP oc).length ((g.lP oc).map i64), .own 3 1 (d) (g.lC oc).length ((g.lC oc).map i64), .own 3 1 (e) (g.lG oc).length ((g.lG oc).map i64), .own 3 1 sa (sF g oc 0 sa sb sy sd).la.length ((sF g oc 0 sa sb sy sd).la.map i64), .own 3 1 sb (sF g oc 0 sa sb sy sd).lb.length ((sF g oc 0 sa sb sy sd).lb.map i64), .own 3 1 sy (sF g oc 0 sa sb sy sd).ly.length ((sF g oc 0 sa sb sy sd).ly.map i64), .own 3 1 sd (sF g oc 0 sa sb sy sd).ld.length ((sF g oc 0 sa sb sy sd).ld.map i64), .blk b17 #[sa, sb, sy, sd] 54]) (by
    rw [sF_zero]
    simp only [sF, List.map_replicate, List.length_replicate]
    (focus ((repeat constructor); done))) ?_
  have hok0 : sOk ⟨a, b, d, e, g.lS oc, g.lP oc, g.lC oc, g.lG oc⟩ (sF g oc 0 sa sb sy sd) = true := sF_ok g oc (by decide) sa sb sy sd undef
  have hok1 : sOk (g.shape oc undef) (sF g oc 0 sa sb sy sd) = true := sF_ok g oc (by decide) sa sb sy sd undef
  have hln : (sF g oc 0 sa sb sy sd).la.length = (g.lS oc).length ∧ (sF g oc 0 sa sb sy sd).lb.length = (g.lP oc).length ∧ (sF g oc 0 sa sb sy sd).ly.length = (g.lC oc).length ∧ (sF g oc 0 sa sb sy sd).ld.length = (g.lG oc).length := ⟨by rw [sF_zero]; exact List.length_replicate, List.length_replicate, List.length_replicate, List.length_replicate⟩
  obtain ⟨hln1, hln2, hln3, hln4⟩ := hln
  repeat first
    | (apply WL.q; exact rfl; exact rfl; exact rfl; (first | (apply EvW.loadAgg; exact rfl; exact AggC.eq; exact SzC.eq; (focus ((repeat constructor); done)); (focus ((repeat (first | exact SubL.nil | apply SubL.cons | apply SubL.succ)); done)))))
    | refine WC.seq ?_ | refine WC.region ?_ | refine WE.next ?_
  try refine WL.wanted rfl rfl rfl ?_
  apply WL.callA ([])
  · exact rfl
  · exact rfl
  · exact fun w => Try.call13 _ w
  · (focus ((repeat constructor); done))
  · exact fun w1 S1 hS1 hs1 ho1 => rstatus_spec ⟨a, b, d, e, g.lS oc, g.lP oc, g.lC oc, g.lG oc⟩ (sF g oc 0 sa sb sy sd) w1 S1 hS1 ⟨(ho1 (.own 3 1 (a) (g.lS oc).length ((g.lS oc).map i64)) _ (by repeat constructor)).own, (ho1 (.own 3 1 (b) (g.lP oc).length ((g.lP oc).map i64)) _ (by repeat constructor)).own, (ho1 (.own 3 1 (d) (g.lC oc).length ((g.lC oc).map i64)) _ (by repeat constructor)).own, (ho1 (.own 3 1 (e) (g.lG oc).length ((g.lG oc).map i64)) _ (by repeat constructor)).own, by simp only []; omega, by simp only []; omega, by simp only []; omega, by simp only []; omega⟩ ⟨(ho1 (.own 3 1 sa (sF g oc 0 sa sb sy sd).la.length ((sF g oc 0 sa sb sy sd).la.map i64)) _ (by repeat constructor)).own, (ho1 (.own 3 1 sb (sF g oc 0 sa sb sy sd).lb.length ((sF g oc 0 sa sb sy sd).lb.map i64)) _ (by repeat constructor)).own, (ho1 (.own 3 1 sy (sF g oc 0 sa sb sy sd).ly.length ((sF g oc 0 sa sb sy sd).ly.map i64)) _ (by repeat constructor)).own, (ho1 (.own 3 1 sd (sF g oc 0 sa sb sy sd).ld.length ((sF g oc 0 sa sb sy sd).ld.map i64)) _ (by repeat constructor)).own, by omega, by omega, by omega, by omega⟩
  rintro _ _ ⟨rfl, rfl⟩
  first | refine WL.app4 ?_ | refine WL.app3 ?_ | refine WL.app2 ?_ | refine WL.app1 ?_ | refine WL.app0 ?_ | skip
  rw [if_pos hok0, if_pos hok0]
  have htl := pay_len hok1 (by omega) (by omega) (by omega)
  have hz := rs_of hok1
  rw [sF_zero] at hz
  obtain ⟨t, ht⟩ : ∃ t, sPay (sF g oc 0 sa sb sy sd) = t := ⟨_, rfl⟩
  obtain ⟨zb, hzb⟩ : ∃ t, (sF g oc 0 sa sb sy sd).lb = t := ⟨_, rfl⟩
  obtain ⟨zy, hzy⟩ : ∃ t, (sF g oc 0 sa sb sy sd).ly = t := ⟨_, rfl⟩
  obtain ⟨zd, hzd⟩ : ∃ t, (sF g oc 0 sa sb sy sd).ld = t := ⟨_, rfl⟩
  rw [ht, hzb, hzy, hzd] at hz
  rw [ht] at htl ⊢
  have hms : (Said.mk oc 1 100 t).small := ⟨by simp only []; omega, by show (0 : Int) ≤ 1 ∧ (1 : Int) < 65536; decide, by show (0 : Int) ≤ 100 ∧ (100 : Int) < 4294967296; decide, htl⟩
  obtain ⟨F, hF⟩ : ∃ F, makeF (Said.mk oc 1 100 t) = (F, 0) := ⟨_, make_ok hms⟩
  obtain ⟨hr, hl⟩ := make_back hF
  have hT := take1 oc 1 100 g.age 100 t (by decide) (by decide) (by omega)
  repeat first
    | (apply WL.q; exact rfl; exact rfl; exact rfl; (first | (apply EvW.move; exact rfl) | (apply EvW.assign; exact rfl) | (apply EvW.extract; exact rfl; exact rfl)))
    | refine WC.seq ?_ | refine WC.region ?_ | refine WL.nil ?_ | refine WE.next ?_
  try refine WL.wanted rfl rfl rfl ?_
  apply WL.callA ([])
  · exact rfl
  · exact rfl
  · exact fun w => Try.call14 _ w
  · (focus ((repeat constructor); done))
  · exact fun w1 S1 hS1 hs1 ho1 => rmake_spec ⟨oc, 1, 100, t⟩ w1 S1 hS1 (by simp only []; omega) (by simp only []; omega) (by show (1 : Int) ≤ _; decide) (by show (100 : Int) ≤ _; decide)
  rintro _ _ ⟨rfl, rfl⟩
  first | refine WL.app4 ?_ | refine WL.app3 ?_ | refine WL.app2 ?_ | refine WL.app1 ?_ | refine WL.app0 ?_ | skip
  rw [hF]
  dsimp only
  refine WL.keep (xs := [.blk q0 (cfgC g).toArray 30, .blk hb #[a, b, d, e] 51, .own 3 1 (a) (g.lS oc).length ((g.lS oc).map i64), .own 3 1 (b) (g.lP oc).length ((g.lP oc).map i64), .own 3 1 (d) (g.lC oc).length ((g.lC oc).map i64), .own 3 1 (e) (g.lG oc).length ((g.lG oc).map i64)]) (by repeat constructor) ?_
  repeat first
    | (apply WL.q; exact rfl; exact rfl; exact rfl; (first | (apply EvW.move; exact rfl) | (apply EvW.assign; exact rfl) | (apply EvW.extract; exact rfl; exact rfl) | (apply EvW.loadAgg; exact rfl; exact AggC.eq; exact SzC.eq; (focus ((repeat constructor); done)); (focus ((repeat (first | exact SubL.nil | apply SubL.cons | apply SubL.succ)); done)))))
    | refine WC.seq ?_ | refine WC.region ?_ | refine WL.nil ?_ | refine WE.next ?_
  try refine WL.wanted rfl rfl rfl ?_
  apply WL.callA ([])
  · exact rfl
  · exact rfl
  · exact fun w => Try.call8 _ w
  · (focus ((repeat constructor); done))
  · exact fun w1 S1 hS1 hs1 ho1 => newI_spec g w1 S1 hS1 (hg.down hs1) hsm
  rintro _ _ ⟨p, rfl, rfl⟩
  first | refine WL.app4 ?_ | refine WL.app3 ?_ | refine WL.app2 ?_ | refine WL.app1 ?_ | refine WL.app0 ?_ | skip
  have hA0 := new_alike' g p p
  have hd0 : aliveP (newI g p).st 100 (newI g p).c.age oc = false := new_dead g p 100 oc
  repeat first
    | (apply WL.q; exact rfl; exact rfl; exact rfl; (first | (apply EvW.move; exact rfl) | (apply EvW.assign; exact rfl)))
    | refine WC.seq ?_ | refine WC.region ?_ | refine WL.nil ?_ | refine WE.next ?_
  try refine WL.wanted rfl rfl rfl ?_
  apply WL.callA ([])
  · exact rfl
  · exact rfl
  · exact fun w => Try.call15 _ w
  · (focus ((repeat constructor); done))
  · exact fun w1 S1 hS1 hs1 ho1 => aliveI_spec (newI g p) 100 oc false w1 S1 hS1 (img_seen (ho1 (imgH (newI g p)) _ (by repeat constructor)) (hA0.xok hsm)) (by decide) hd0
  rintro _ _ ⟨rfl, rfl⟩
  first | refine WL.app4 ?_ | refine WL.app3 ?_ | refine WL.app2 ?_ | refine WL.app1 ?_ | refine WL.app0 ?_ | skip
  have hlo := hA0.lostA (by decide) oc.toNat
  have hxt := new_take g p ho0 hT
  repeat first
    | (apply WL.q; exact rfl; exact rfl; exact rfl; (first | (apply EvW.move; exact rfl)))
    | refine WL.wanted rfl rfl rfl ?_
  try refine WL.wanted rfl rfl rfl ?_
  apply WL.callA ([imgH (newI g p)])
  · exact rfl
  · exact rfl
  · exact fun w => Try.call9 _ w
  · (focus ((repeat constructor); done))
  · exact fun w1 S1 hS1 hs1 ho1 => takeI_spec (newI g p) 100 oc F (Said.mk oc 1 100 t) 0 0 (List.replicate (g.lS oc).length 0, zb, zy, zd) (⟨100, 0, 1, oc, g.age⟩, t, 0) w1 S1 hS1 (hA0.xok hsm) (by omega) (by decide) hr hxt hlo.1 hlo.2 (hA0.rs hz) (by simp only []; omega)
  rintro _ _ ⟨sv, rfl, rfl⟩
  first | refine WL.app4 ?_ | refine WL.app3 ?_ | refine WL.app2 ?_ | refine WL.app1 ?_ | refine WL.app0 ?_ | skip
  rw [show tookE oc ((⟨100, 0, 1, oc, g.age⟩, t, 0) : Rcv × List UInt8 × Int) 0 = 0 from by unfold tookE; rw [if_pos ho0, if_neg (fun h => h rfl)]]
  have hO := new_once g p ho0 hsm hr hT hz sv
  have e5 := took_b (newI g p) oc ((⟨100, 0, 1, oc, g.age⟩, t, 0) : Rcv × List UInt8 × Int) 0 (List.replicate (g.lS oc).length 0, zb, zy, zd) sv
  generalize Img.took (newI g p) oc ((⟨100, 0, 1, oc, g.age⟩, t, 0) : Rcv × List UInt8 × Int) 0 (List.replicate (g.lS oc).length 0, zb, zy, zd) sv = x at hO e5
  have e6 : p.1 = x.b := e5.symm
  rw [e6]
  obtain ⟨y, n, hA⟩ := hO.al
  have hok := hA.xok hsm
  have hal := hO.alive ho0 (by show (0 : Int) ≤ 100; decide) (now := 100 + late) (by show (100 : Int) ≤ _; omega)
  rw [show (100 + late - (Rcv.mk 100 0 1 oc g.age).last) = late from by show 100 + late - 100 = late; omega] at hal
  have hsd2 := hA.sound (100 + late)
  have hl1 := Img.occ_len x (100 + late) x.c.secs.length
  rw [show x.c.secs.length = g.secs.length from congrArg List.length hA.cs] at hl1
  have hV : ∀ (w : World) (S : BSet), (sepL []).sat S w → (Img.Seen x w S) → _ := fun w S hS hx => view_spec x (100 + late) w S hS hx (by omega) hok.small hsd2
  rw [show x.c.secs = g.secs from hA.cs, show x.c.crs = g.crs from hA.cr, show x.c.sigs = g.sigs from hA.cg] at hV
  have hdead : ∀ i, i < g.secs.length → aliveP x.st (100 + late) x.c.age (g.secs.getD i default).oc = false → (x.occ (100 + late) g.secs.length).getD i default = (1, -1, false) := fun i hi h => occ_dead hA _ hi h
  have hlive : ∀ i, i < g.secs.length → (g.secs.getD i default).oc = oc → aliveP x.st (100 + late) x.c.age oc = true → (x.occ (100 + late) g.secs.length).getD i default = (0, 100, true) := fun i hi ho h => by
    rw [occ_live hA _ hi ho h, hO.la, hO.st, rep_getD]
  generalize Img.occ x (100 + late) g.secs.length = L1 at hl1 hV hdead hlive
  generalize Img.pos x (100 + late) g.secs.length = L2 at hV
  generalize Img.shut x (100 + late) g.crs.length = L3 at hV
  generalize Img.lamp x (100 + late) g.sigs.length = L4 at hV
  have hoth : ∀ i, i < g.secs.length → (g.secs.getD i default).oc ≠ oc → L1.getD i default = (1, -1, false) := fun i hi h => hdead i hi (hO.other _ h)
  by_cases hfr : late ≤ g.age
  · have hal2 : aliveP x.st (100 + late) x.c.age oc = true := by rw [hal]; exact decide_eq_true hfr
    have hown : ∀ i, i < g.secs.length → (g.secs.getD i default).oc = oc → L1.getD i default = (0, 100, true) := fun i hi h => hlive i hi h hal2
    repeat first
      | (apply WL.q; exact rfl; exact rfl; exact rfl; (first | (apply EvW.move; exact rfl) | (apply EvW.assign; exact rfl) | (apply EvW.fieldAddr0; exact rfl; exact FldC.eq) | (apply EvW.fieldAddr; exact rfl; exact FldC.eq) | (apply EvW.load; exact rfl; exact ScalC.eq; (focus ((repeat constructor); done)); exact rfl) | (apply EvW.cmpT; exact rfl; exact rfl; exact rfl; omega) | (apply EvW.cmpF; exact rfl; exact rfl; exact rfl; omega) | (apply EvW.arN; exact rfl; exact rfl; exact rfl; (first | (refine i64_in ?_ ?_ <;> omega) | (constructor <;> simp only [IntKind.min, IntKind.max, IntKind.signed, IntKind.bits, ↓reduceIte, Bool.false_eq_true] <;> omega))) | (apply EvW.pickF; exact rfl; exact rfl)))
      | refine WC.seq ?_ | refine WC.region ?_ | refine WL.nil ?_ | refine WE.next ?_ | refine WC.skip ?_ | refine WC.condF rfl ?_ | refine WL.wanted rfl rfl rfl ?_
    try refine WL.wanted rfl rfl rfl ?_
    apply WL.callA ([])
    · exact rfl
    · exact rfl
    · exact fun w => Try.call10 _ w
    · (focus ((repeat constructor); done))
    · exact fun w1 S1 hS1 hs1 ho1 => hV w1 S1 hS1 (img_seen (ho1 (imgH x) _ (by repeat constructor)) hok)
    rintro _ _ ⟨a0, a1, a2, a3, rfl, rfl⟩
    first | refine WL.app4 ?_ | refine WL.app3 ?_ | refine WL.app2 ?_ | refine WL.app1 ?_ | refine WL.app0 ?_ | skip
    skip
    try refine WL.wanted rfl rfl rfl ?_
    (apply WL.alloc; exact rfl; exact ZvC.eq; exact rfl; intro vb)
    (first | refine WL.slOwn (v := a0) (by repeat constructor) ?_ | refine WC.slOwn (v := a0) (by repeat constructor) ?_)
    intro hc_a0 ho_a0
    (first | refine WL.slOwn (v := a1) (by repeat constructor) ?_ | refine WC.slOwn (v := a1) (by repeat constructor) ?_)
    intro hc_a1 ho_a1
    (first | refine WL.slOwn (v := a2) (by repeat constructor) ?_ | refine WC.slOwn (v := a2) (by repeat constructor) ?_)
    intro hc_a2 ho_a2
    (first | refine WL.slOwn (v := a3) (by repeat constructor) ?_ | refine WC.slOwn (v := a3) (by repeat constructor) ?_)
    intro hc_a3 ho_a3
    have hall2 : ([a0, a1, a2, a3] : List Value).all (·.oneCell') = true := by
      simp at ho_a0 ho_a1 ho_a2 ho_a3
      simp [ho_a0, ho_a1, ho_a2, ho_a3]
    clear hc_a0 hc_a1 hc_a2 hc_a3 ho_a0 ho_a1 ho_a2 ho_a3
    repeat first
      | (apply WL.q; exact rfl; exact rfl; exact rfl; (first | (apply EvW.move; exact rfl) | (apply EvW.arN; exact rfl; exact rfl; exact rfl; (first | (refine i64_in ?_ ?_ <;> omega) | (constructor <;> simp only [IntKind.min, IntKind.max, IntKind.signed, IntKind.bits, ↓reduceIte, Bool.false_eq_true] <;> omega)))))
      | refine WC.seq ?_ | refine WC.region ?_ | refine WL.nil ?_ | refine WE.next ?_ | (apply WL.store; exact rfl; exact rfl; (first | assumption | exact rfl); exact SzC.eq; (first | assumption | exact rfl); (focus ((repeat constructor); done)))
    try refine WL.wanted rfl rfl rfl ?_
    apply WL.callA ([])
    · exact rfl
    · exact rfl
    · exact fun w => Try.call15 _ w
    · (focus ((repeat constructor); done))
    · exact fun w1 S1 hS1 hs1 ho1 => aliveI_spec x (100 + late) oc true w1 S1 hS1 (img_seen (ho1 (imgH x) _ (by repeat constructor)) hok) (by omega) hal2
    rintro _ _ ⟨rfl, rfl⟩
    first | refine WL.app4 ?_ | refine WL.app3 ?_ | refine WL.app2 ?_ | refine WL.app1 ?_ | refine WL.app0 ?_ | skip
    repeat first
      | (apply WL.q; exact rfl; exact rfl; exact rfl; (first | (apply EvW.move; exact rfl) | (apply EvW.fieldAddr0; exact rfl; exact FldC.eq) | (apply EvW.load; exact rfl; exact ScalC.eq; (focus ((repeat constructor); done)); exact rfl) | (apply EvW.cmpF; exact rfl; exact rfl; exact rfl; omega) | (apply EvW.pickF; exact rfl; exact rfl) | (apply EvW.bneS; exact rfl; exact rfl; exact UndC.eq) | (apply EvW.lenRow; exact rfl; exact UndC.eq; assumption) | (apply EvW.lenOwn; exact rfl; exact UndC.eq; (focus ((repeat constructor); done)))))
      | refine WC.seq ?_ | refine WC.region ?_ | refine WL.nil ?_ | refine WE.next ?_ | refine WC.block ?_ | refine WC.skip ?_ | refine WC.condF rfl ?_ | refine WL.wanted rfl rfl rfl ?_
    refine WC.loopK (σ := Nat) [1, 3, 14, 15, 134, 135] (fun s => [(136, i64 s)]) (fun s => [.blk vb #[a0, a1, a2, a3] 41, .own 44 3 (a0) (L1).length ((L1).flatMap lkC), .blk hb #[a, b, d, e] 51, .own 3 1 (a) (g.lS oc).length ((g.lS oc).map i64), .own 3 1 (b) (g.lP oc).length ((g.lP oc).map i64), .own 3 1 (d) (g.lC oc).length ((g.lC oc).map i64), .own 3 1 (e) (g.lG oc).length ((g.lG oc).map i64), .blk q0 (cfgC g).toArray 30]) (fun s => s ≤ (g.lS oc).length) (fun s => (g.lS oc).length - s) 0 (by (focus ((repeat (first | exact Pick.nil | (apply Pick.cons; exact rfl))); done))) (by (focus ((repeat (first | exact trivial | (refine ⟨rfl, ?_⟩))); done))) (fun _ h => h.keep (by repeat constructor)) (Nat.zero_le _) (fun s hs => ?_)
    obtain ⟨k, rfl⟩ : ∃ q, q = s := ⟨s, rfl⟩
    simp only [List.cons_append, List.nil_append] at hs ⊢
    by_cases hlt : (k : Int) < (g.lS oc).length
    · obtain ⟨j, hj, hjn, hjo⟩ := lS_at (g := g) (oc := oc) (k := k) (by omega)
      have hkk : ((k : Nat) : Int).toNat = k := Int.toNat_natCast k
      have hjn2 : (g.lS oc).getD ((k : Nat) : Int).toNat 0 = (j : Int) := by rw [hkk]; exact hjn
      have hjj : ((g.lS oc).getD ((k : Nat) : Int).toNat 0).toNat = j := by rw [hjn2]; exact Int.toNat_natCast j
      have hv1 := hown j hj hjo
      have hva : (L1.getD ((g.lS oc).getD ((k : Nat) : Int).toNat 0).toNat default).1 = 0 := by rw [hjj, hv1]
      have hvb : (L1.getD ((g.lS oc).getD ((k : Nat) : Int).toNat 0).toNat default).2.1 = 100 := by rw [hjj, hv1]
      have hvc : (L1.getD ((g.lS oc).getD ((k : Nat) : Int).toNat 0).toNat default).2.2 = true := by rw [hjj, hv1]
      have hlt3 : ((g.lS oc).getD ((k : Nat) : Int).toNat 0).toNat < L1.length := by rw [hjj]; omega
      repeat first
        | (apply WL.q; exact rfl; exact rfl; exact rfl; (first | (apply EvW.move; exact rfl) | (apply EvW.assign; exact rfl) | (apply EvW.fieldAddr0; exact rfl; exact FldC.eq) | (apply EvW.load; exact rfl; exact ScalC.eq; (focus ((repeat constructor); done)); exact rfl) | (apply EvW.cmpT; exact rfl; exact rfl; exact rfl; omega) | (apply EvW.bne; exact rfl; exact rfl; exact UndC.eq) | (apply EvW.idxOwn; exact rfl; exact rfl; exact UndC.eq; exact SzC.eq; (focus ((repeat constructor); done)); omega; omega) | (apply EvW.ldIntOwn; exact rfl; exact ScalC.eq; (focus ((repeat constructor); done)); omega) | (apply EvW.fldOwn; exact rfl; exact FldC.eq; (focus ((repeat constructor); done)); omega) | (apply EvW.ldFldOwn; exact rfl; exact ScalC.eq; (focus ((repeat constructor); done)); exact fun _ => rfl; omega; exact rfl; exact inferInstance)))
        | refine WC.seq ?_ | refine WC.region ?_ | refine WL.nil ?_ | refine WE.next ?_ | refine WC.block ?_ | refine WC.skip ?_ | refine WC.condT rfl ?_
      rw [hvc]
      repeat first
        | (apply WL.q; exact rfl; exact rfl; exact rfl; (first | (apply EvW.move; exact rfl) | (apply EvW.fieldAddr0; exact rfl; exact FldC.eq) | (apply EvW.load; exact rfl; exact ScalC.eq; (focus ((repeat constructor); done)); exact rfl) | (apply EvW.cmpF; exact rfl; exact rfl; exact rfl; omega) | (apply EvW.arN; exact rfl; exact rfl; exact rfl; (first | (refine i64_in ?_ ?_ <;> omega) | (constructor <;> simp only [IntKind.min, IntKind.max, IntKind.signed, IntKind.bits, ↓reduceIte, Bool.false_eq_true] <;> omega))) | (apply EvW.pickT; exact rfl; exact rfl) | (apply EvW.pickF; exact rfl; exact rfl) | (apply EvW.idxOwn; exact rfl; exact rfl; exact UndC.eq; exact SzC.eq; (focus ((repeat constructor); done)); omega; omega) | (apply EvW.fldOwn; exact rfl; exact FldC.eq; (focus ((repeat constructor); done)); omega) | (apply EvW.ldFldOwn; exact rfl; exact ScalC.eq; (focus ((repeat constructor); done)); exact fun _ => rfl; omega; exact rfl; exact inferInstance)))
        | refine WC.region ?_ | refine WL.nil ?_ | refine WE.next ?_ | refine WC.skip ?_ | refine WE.out ?_ | refine WC.condF rfl ?_ | refine WL.wanted rfl rfl rfl ?_
      rw [hva]
      skip
      rw [hvb]
      skip
      exact WE.again (s := k) ((k + 1)) (by omega) (by (focus ((repeat (first | exact trivial | (refine ⟨rfl, ?_⟩))); done))) (fun _ h => (by (try simp only []); exact h.keep (by repeat constructor))) (by (try simp only []); omega)
    · repeat first
        | (apply WL.q; exact rfl; exact rfl; exact rfl; (first | (apply EvW.move; exact rfl) | (apply EvW.fieldAddr0; exact rfl; exact FldC.eq) | (apply EvW.load; exact rfl; exact ScalC.eq; (focus ((repeat constructor); done)); exact rfl) | (apply EvW.cmpF; exact rfl; exact rfl; exact rfl; omega) | (apply EvW.lenRow; exact rfl; exact UndC.eq; assumption)))
        | refine WC.seq ?_ | refine WC.region ?_ | refine WL.nil ?_ | refine WE.next ?_ | refine WC.block ?_ | refine WC.exit ?_ | refine WE.pass ?_ | refine WE.hit ?_ | refine WC.condF rfl ?_
      refine WC.loopK (σ := Nat) [1, 15, 171, 172] (fun s => [(173, i64 s)]) (fun s => [.blk vb #[a0, a1, a2, a3] 41, .own 44 3 (a0) (L1).length ((L1).flatMap lkC), .blk q0 (cfgC g).toArray 30]) (fun s => s ≤ g.secs.length) (fun s => g.secs.length - s) 0 (by (focus ((repeat (first | exact Pick.nil | (apply Pick.cons; exact rfl))); done))) (by (focus ((repeat (first | exact trivial | (refine ⟨rfl, ?_⟩))); done))) (fun _ h => h.keep (by repeat constructor)) (Nat.zero_le _) (fun s hs => ?_)
      obtain ⟨n, rfl⟩ : ∃ q, q = s := ⟨s, rfl⟩
      simp only [List.cons_append, List.nil_append] at hs ⊢
      by_cases hlt2 : (n : Int) < g.secs.length
      · have hin : n < g.secs.length := by omega
        have hnn : ((n : Nat) : Int).toNat = n := Int.toNat_natCast n
        have hlt3 : ((n : Nat) : Int).toNat < L1.length := by rw [hnn]; omega
        repeat first
          | (apply WL.q; exact rfl; exact rfl; exact rfl; (first | (apply EvW.move; exact rfl) | (apply EvW.cmpT; exact rfl; exact rfl; exact rfl; omega) | (apply EvW.idxRow; exact rfl; exact rfl; exact UndC.eq; exact SzC.eq; assumption; omega; omega)))
          | refine WC.seq ?_ | refine WC.region ?_ | refine WL.nil ?_ | refine WE.next ?_ | refine WC.block ?_ | refine WC.skip ?_ | refine WC.condT rfl ?_
        (apply WL.q; exact rfl; exact rfl; exact rfl; (apply EvW.ldElem (xs := g.secs) (z := (default : Sec)) (f := secC); exact rfl; exact AggC.eq; exact SzC.eq; exact rfl; exact fun _ => rfl; assumption; omega))
        try refine WL.wanted rfl rfl rfl ?_
        (apply WL.alloc; exact rfl; exact ZvC.eq; exact rfl; intro zb)
        by_cases hoo : (g.secs.getD ((n : Nat) : Int).toNat default).oc = oc
        · repeat first
            | (apply WL.q; exact rfl; exact rfl; exact rfl; (first | (apply EvW.move; exact rfl) | (apply EvW.assign; exact rfl) | (apply EvW.fieldAddr0; exact rfl; exact FldC.eq) | (apply EvW.load; exact rfl; exact ScalC.eq; (focus ((repeat constructor); done)); exact rfl) | (apply EvW.cmpF; exact rfl; exact rfl; exact rfl; omega) | (apply EvW.arN; exact rfl; exact rfl; exact rfl; (first | (refine i64_in ?_ ?_ <;> omega) | (constructor <;> simp only [IntKind.min, IntKind.max, IntKind.signed, IntKind.bits, ↓reduceIte, Bool.false_eq_true] <;> omega))) | (apply EvW.pickF; exact rfl; exact rfl)))
            | refine WC.seq ?_ | refine WC.region ?_ | refine WL.nil ?_ | refine WE.next ?_ | refine WC.skip ?_ | refine WE.out ?_ | refine WC.condF rfl ?_ | refine WL.unwanted rfl rfl rfl rfl ?_ | (apply WL.store; exact rfl; exact rfl; (first | assumption | exact rfl); exact SzC.eq; (first | assumption | exact rfl); (focus ((repeat constructor); done)))
          exact WE.again (s := n) ((n + 1)) (by omega) (by (focus ((repeat (first | exact trivial | (refine ⟨rfl, ?_⟩))); done))) (fun _ h => (by (try simp only []); exact h.keep (by repeat constructor))) (by (try simp only []); omega)
        · have hv1 := hoth n hin (by rw [hnn] at hoo; exact hoo)
          repeat first
            | (apply WL.q; exact rfl; exact rfl; exact rfl; (first | (apply EvW.move; exact rfl) | (apply EvW.assign; exact rfl) | (apply EvW.fieldAddr0; exact rfl; exact FldC.eq) | (apply EvW.load; exact rfl; exact ScalC.eq; (focus ((repeat constructor); done)); exact rfl) | (apply EvW.cmpT; exact rfl; exact rfl; exact rfl; omega) | (apply EvW.pickT; exact rfl; exact rfl) | (apply EvW.idxOwn; exact rfl; exact rfl; exact UndC.eq; exact SzC.eq; (focus ((repeat constructor); done)); omega; omega) | (apply EvW.fldOwn; exact rfl; exact FldC.eq; (focus ((repeat constructor); done)); omega) | (apply EvW.ldFldOwn; exact rfl; exact ScalC.eq; (focus ((repeat constructor); done)); exact fun _ => rfl; omega; exact rfl; exact inferInstance)))
            | refine WC.seq ?_ | refine WC.region ?_ | refine WL.nil ?_ | refine WE.next ?_ | refine WL.wanted rfl rfl rfl ?_ | (apply WL.store; exact rfl; exact rfl; (first | assumption | exact rfl); exact SzC.eq; (first | assumption | exact rfl); (focus ((repeat constructor); done)))
          rw [hnn, hv1]
          repeat first
            | (apply WL.q; exact rfl; exact rfl; exact rfl; (first | (apply EvW.move; exact rfl) | (apply EvW.arN; exact rfl; exact rfl; exact rfl; (first | (refine i64_in ?_ ?_ <;> omega) | (constructor <;> simp only [IntKind.min, IntKind.max, IntKind.signed, IntKind.bits, ↓reduceIte, Bool.false_eq_true] <;> omega)))))
            | refine WC.region ?_ | refine WL.nil ?_ | refine WE.next ?_ | refine WC.skip ?_ | refine WE.out ?_ | refine WC.condF rfl ?_
          exact WE.again (s := n) ((n + 1)) (by omega) (by (focus ((repeat (first | exact trivial | (refine ⟨rfl, ?_⟩))); done))) (fun _ h => (by (try simp only []); exact h.keep (by repeat constructor))) (by (try simp only []); omega)
      · repeat first
          | (apply WL.q; exact rfl; exact rfl; exact rfl; (first | (apply EvW.assign; exact rfl) | (apply EvW.cmpF; exact rfl; exact rfl; exact rfl; omega)))
          | refine WC.seq ?_ | refine WC.region ?_ | refine WL.nil ?_ | refine WE.next ?_ | refine WC.exit ?_ | refine WE.pass ?_ | refine WE.hit ?_ | refine WC.condF rfl ?_ | refine WC.ret ?_
        refine WE.bare ?_
        refine WE.ret1 rfl rfl ?_
        rfl
  · have hal2 : aliveP x.st (100 + late) x.c.age oc = false := by rw [hal]; exact decide_eq_false hfr
    have hown : ∀ i, i < g.secs.length → (g.secs.getD i default).oc = oc → L1.getD i default = (1, -1, false) := fun i hi h => hdead i hi (by rw [h]; exact hal2)
    repeat first
      | (apply WL.q; exact rfl; exact rfl; exact rfl; (first | (apply EvW.move; exact rfl) | (apply EvW.assign; exact rfl) | (apply EvW.fieldAddr0; exact rfl; exact FldC.eq) | (apply EvW.fieldAddr; exact rfl; exact FldC.eq) | (apply EvW.load; exact rfl; exact ScalC.eq; (focus ((repeat constructor); done)); exact rfl) | (apply EvW.cmpF; exact rfl; exact rfl; exact rfl; omega) | (apply EvW.arN; exact rfl; exact rfl; exact rfl; (first | (refine i64_in ?_ ?_ <;> omega) | (constructor <;> simp only [IntKind.min, IntKind.max, IntKind.signed, IntKind.bits, ↓reduceIte, Bool.false_eq_true] <;> omega))) | (apply EvW.pickF; exact rfl; exact rfl)))
      | refine WC.seq ?_ | refine WC.region ?_ | refine WL.nil ?_ | refine WE.next ?_ | refine WC.skip ?_ | refine WC.condF rfl ?_ | refine WL.wanted rfl rfl rfl ?_
    try refine WL.wanted rfl rfl rfl ?_
    apply WL.callA ([])
    · exact rfl
    · exact rfl
    · exact fun w => Try.call10 _ w
    · (focus ((repeat constructor); done))
    · exact fun w1 S1 hS1 hs1 ho1 => hV w1 S1 hS1 (img_seen (ho1 (imgH x) _ (by repeat constructor)) hok)
    rintro _ _ ⟨a0, a1, a2, a3, rfl, rfl⟩
    first | refine WL.app4 ?_ | refine WL.app3 ?_ | refine WL.app2 ?_ | refine WL.app1 ?_ | refine WL.app0 ?_ | skip
    skip
    try refine WL.wanted rfl rfl rfl ?_
    (apply WL.alloc; exact rfl; exact ZvC.eq; exact rfl; intro vb)
    (first | refine WL.slOwn (v := a0) (by repeat constructor) ?_ | refine WC.slOwn (v := a0) (by repeat constructor) ?_)
    intro hc_a0 ho_a0
    (first | refine WL.slOwn (v := a1) (by repeat constructor) ?_ | refine WC.slOwn (v := a1) (by repeat constructor) ?_)
    intro hc_a1 ho_a1
    (first | refine WL.slOwn (v := a2) (by repeat constructor) ?_ | refine WC.slOwn (v := a2) (by repeat constructor) ?_)
    intro hc_a2 ho_a2
    (first | refine WL.slOwn (v := a3) (by repeat constructor) ?_ | refine WC.slOwn (v := a3) (by repeat constructor) ?_)
    intro hc_a3 ho_a3
    have hall2 : ([a0, a1, a2, a3] : List Value).all (·.oneCell') = true := by
      simp at ho_a0 ho_a1 ho_a2 ho_a3
      simp [ho_a0, ho_a1, ho_a2, ho_a3]
    clear hc_a0 hc_a1 hc_a2 hc_a3 ho_a0 ho_a1 ho_a2 ho_a3
    repeat first
      | (apply WL.q; exact rfl; exact rfl; exact rfl; (first | (apply EvW.move; exact rfl) | (apply EvW.arN; exact rfl; exact rfl; exact rfl; (first | (refine i64_in ?_ ?_ <;> omega) | (constructor <;> simp only [IntKind.min, IntKind.max, IntKind.signed, IntKind.bits, ↓reduceIte, Bool.false_eq_true] <;> omega)))))
      | refine WC.seq ?_ | refine WC.region ?_ | refine WL.nil ?_ | refine WE.next ?_ | (apply WL.store; exact rfl; exact rfl; (first | assumption | exact rfl); exact SzC.eq; (first | assumption | exact rfl); (focus ((repeat constructor); done)))
    try refine WL.wanted rfl rfl rfl ?_
    apply WL.callA ([])
    · exact rfl
    · exact rfl
    · exact fun w => Try.call15 _ w
    · (focus ((repeat constructor); done))
    · exact fun w1 S1 hS1 hs1 ho1 => aliveI_spec x (100 + late) oc false w1 S1 hS1 (img_seen (ho1 (imgH x) _ (by repeat constructor)) hok) (by omega) hal2
    rintro _ _ ⟨rfl, rfl⟩
    first | refine WL.app4 ?_ | refine WL.app3 ?_ | refine WL.app2 ?_ | refine WL.app1 ?_ | refine WL.app0 ?_ | skip
    repeat first
      | (apply WL.q; exact rfl; exact rfl; exact rfl; (first | (apply EvW.move; exact rfl) | (apply EvW.fieldAddr0; exact rfl; exact FldC.eq) | (apply EvW.load; exact rfl; exact ScalC.eq; (focus ((repeat constructor); done)); exact rfl) | (apply EvW.cmpF; exact rfl; exact rfl; exact rfl; omega) | (apply EvW.pickF; exact rfl; exact rfl) | (apply EvW.bneS; exact rfl; exact rfl; exact UndC.eq) | (apply EvW.lenRow; exact rfl; exact UndC.eq; assumption) | (apply EvW.lenOwn; exact rfl; exact UndC.eq; (focus ((repeat constructor); done)))))
      | refine WC.seq ?_ | refine WC.region ?_ | refine WL.nil ?_ | refine WE.next ?_ | refine WC.block ?_ | refine WC.skip ?_ | refine WC.condF rfl ?_ | refine WL.wanted rfl rfl rfl ?_
    refine WC.loopK (σ := Nat) [1, 3, 14, 15, 134, 135] (fun s => [(136, i64 s)]) (fun s => [.blk vb #[a0, a1, a2, a3] 41, .own 44 3 (a0) (L1).length ((L1).flatMap lkC), .blk hb #[a, b, d, e] 51, .own 3 1 (a) (g.lS oc).length ((g.lS oc).map i64), .own 3 1 (b) (g.lP oc).length ((g.lP oc).map i64), .own 3 1 (d) (g.lC oc).length ((g.lC oc).map i64), .own 3 1 (e) (g.lG oc).length ((g.lG oc).map i64), .blk q0 (cfgC g).toArray 30]) (fun s => s ≤ (g.lS oc).length) (fun s => (g.lS oc).length - s) 0 (by (focus ((repeat (first | exact Pick.nil | (apply Pick.cons; exact rfl))); done))) (by (focus ((repeat (first | exact trivial | (refine ⟨rfl, ?_⟩))); done))) (fun _ h => h.keep (by repeat constructor)) (Nat.zero_le _) (fun s hs => ?_)
    obtain ⟨k, rfl⟩ : ∃ q, q = s := ⟨s, rfl⟩
    simp only [List.cons_append, List.nil_append] at hs ⊢
    by_cases hlt : (k : Int) < (g.lS oc).length
    · obtain ⟨j, hj, hjn, hjo⟩ := lS_at (g := g) (oc := oc) (k := k) (by omega)
      have hkk : ((k : Nat) : Int).toNat = k := Int.toNat_natCast k
      have hjn2 : (g.lS oc).getD ((k : Nat) : Int).toNat 0 = (j : Int) := by rw [hkk]; exact hjn
      have hjj : ((g.lS oc).getD ((k : Nat) : Int).toNat 0).toNat = j := by rw [hjn2]; exact Int.toNat_natCast j
      have hv1 := hown j hj hjo
      have hva : (L1.getD ((g.lS oc).getD ((k : Nat) : Int).toNat 0).toNat default).1 = 1 := by rw [hjj, hv1]
      have hvb : (L1.getD ((g.lS oc).getD ((k : Nat) : Int).toNat 0).toNat default).2.1 = -1 := by rw [hjj, hv1]
      have hvc : (L1.getD ((g.lS oc).getD ((k : Nat) : Int).toNat 0).toNat default).2.2 = false := by rw [hjj, hv1]
      have hlt3 : ((g.lS oc).getD ((k : Nat) : Int).toNat 0).toNat < L1.length := by rw [hjj]; omega
      repeat first
        | (apply WL.q; exact rfl; exact rfl; exact rfl; (first | (apply EvW.move; exact rfl) | (apply EvW.assign; exact rfl) | (apply EvW.fieldAddr0; exact rfl; exact FldC.eq) | (apply EvW.load; exact rfl; exact ScalC.eq; (focus ((repeat constructor); done)); exact rfl) | (apply EvW.cmpT; exact rfl; exact rfl; exact rfl; omega) | (apply EvW.bne; exact rfl; exact rfl; exact UndC.eq) | (apply EvW.idxOwn; exact rfl; exact rfl; exact UndC.eq; exact SzC.eq; (focus ((repeat constructor); done)); omega; omega) | (apply EvW.ldIntOwn; exact rfl; exact ScalC.eq; (focus ((repeat constructor); done)); omega) | (apply EvW.fldOwn; exact rfl; exact FldC.eq; (focus ((repeat constructor); done)); omega) | (apply EvW.ldFldOwn; exact rfl; exact ScalC.eq; (focus ((repeat constructor); done)); exact fun _ => rfl; omega; exact rfl; exact inferInstance)))
        | refine WC.seq ?_ | refine WC.region ?_ | refine WL.nil ?_ | refine WE.next ?_ | refine WC.block ?_ | refine WC.skip ?_ | refine WC.condT rfl ?_
      rw [hvc]
      repeat first
        | (apply WL.q; exact rfl; exact rfl; exact rfl; (first | (apply EvW.move; exact rfl) | (apply EvW.arN; exact rfl; exact rfl; exact rfl; (first | (refine i64_in ?_ ?_ <;> omega) | (constructor <;> simp only [IntKind.min, IntKind.max, IntKind.signed, IntKind.bits, ↓reduceIte, Bool.false_eq_true] <;> omega))) | (apply EvW.pickF; exact rfl; exact rfl)))
        | refine WC.region ?_ | refine WL.nil ?_ | refine WE.next ?_ | refine WC.skip ?_ | refine WE.out ?_ | refine WC.condF rfl ?_ | refine WL.wanted rfl rfl rfl ?_ | refine WL.unwanted rfl rfl rfl rfl ?_ | refine WL.unwantedU rfl rfl rfl rfl ?_
      exact WE.again (s := k) ((k + 1)) (by omega) (by (focus ((repeat (first | exact trivial | (refine ⟨rfl, ?_⟩))); done))) (fun _ h => (by (try simp only []); exact h.keep (by repeat constructor))) (by (try simp only []); omega)
    · repeat first
        | (apply WL.q; exact rfl; exact rfl; exact rfl; (first | (apply EvW.move; exact rfl) | (apply EvW.fieldAddr0; exact rfl; exact FldC.eq) | (apply EvW.load; exact rfl; exact ScalC.eq; (focus ((repeat constructor); done)); exact rfl) | (apply EvW.cmpF; exact rfl; exact rfl; exact rfl; omega) | (apply EvW.lenRow; exact rfl; exact UndC.eq; assumption)))
        | refine WC.seq ?_ | refine WC.region ?_ | refine WL.nil ?_ | refine WE.next ?_ | refine WC.block ?_ | refine WC.exit ?_ | refine WE.pass ?_ | refine WE.hit ?_ | refine WC.condF rfl ?_
      refine WC.loopK (σ := Nat) [1, 15, 171, 172] (fun s => [(173, i64 s)]) (fun s => [.blk vb #[a0, a1, a2, a3] 41, .own 44 3 (a0) (L1).length ((L1).flatMap lkC), .blk q0 (cfgC g).toArray 30]) (fun s => s ≤ g.secs.length) (fun s => g.secs.length - s) 0 (by (focus ((repeat (first | exact Pick.nil | (apply Pick.cons; exact rfl))); done))) (by (focus ((repeat (first | exact trivial | (refine ⟨rfl, ?_⟩))); done))) (fun _ h => h.keep (by repeat constructor)) (Nat.zero_le _) (fun s hs => ?_)
      obtain ⟨n, rfl⟩ : ∃ q, q = s := ⟨s, rfl⟩
      simp only [List.cons_append, List.nil_append] at hs ⊢
      by_cases hlt2 : (n : Int) < g.secs.length
      · have hin : n < g.secs.length := by omega
        have hnn : ((n : Nat) : Int).toNat = n := Int.toNat_natCast n
        have hlt3 : ((n : Nat) : Int).toNat < L1.length := by rw [hnn]; omega
        repeat first
          | (apply WL.q; exact rfl; exact rfl; exact rfl; (first | (apply EvW.move; exact rfl) | (apply EvW.cmpT; exact rfl; exact rfl; exact rfl; omega) | (apply EvW.idxRow; exact rfl; exact rfl; exact UndC.eq; exact SzC.eq; assumption; omega; omega)))
          | refine WC.seq ?_ | refine WC.region ?_ | refine WL.nil ?_ | refine WE.next ?_ | refine WC.block ?_ | refine WC.skip ?_ | refine WC.condT rfl ?_
        (apply WL.q; exact rfl; exact rfl; exact rfl; (apply EvW.ldElem (xs := g.secs) (z := (default : Sec)) (f := secC); exact rfl; exact AggC.eq; exact SzC.eq; exact rfl; exact fun _ => rfl; assumption; omega))
        try refine WL.wanted rfl rfl rfl ?_
        (apply WL.alloc; exact rfl; exact ZvC.eq; exact rfl; intro zb)
        by_cases hoo : (g.secs.getD ((n : Nat) : Int).toNat default).oc = oc
        · repeat first
            | (apply WL.q; exact rfl; exact rfl; exact rfl; (first | (apply EvW.move; exact rfl) | (apply EvW.assign; exact rfl) | (apply EvW.fieldAddr0; exact rfl; exact FldC.eq) | (apply EvW.load; exact rfl; exact ScalC.eq; (focus ((repeat constructor); done)); exact rfl) | (apply EvW.cmpF; exact rfl; exact rfl; exact rfl; omega) | (apply EvW.arN; exact rfl; exact rfl; exact rfl; (first | (refine i64_in ?_ ?_ <;> omega) | (constructor <;> simp only [IntKind.min, IntKind.max, IntKind.signed, IntKind.bits, ↓reduceIte, Bool.false_eq_true] <;> omega))) | (apply EvW.pickF; exact rfl; exact rfl)))
            | refine WC.seq ?_ | refine WC.region ?_ | refine WL.nil ?_ | refine WE.next ?_ | refine WC.skip ?_ | refine WE.out ?_ | refine WC.condF rfl ?_ | refine WL.unwanted rfl rfl rfl rfl ?_ | (apply WL.store; exact rfl; exact rfl; (first | assumption | exact rfl); exact SzC.eq; (first | assumption | exact rfl); (focus ((repeat constructor); done)))
          exact WE.again (s := n) ((n + 1)) (by omega) (by (focus ((repeat (first | exact trivial | (refine ⟨rfl, ?_⟩))); done))) (fun _ h => (by (try simp only []); exact h.keep (by repeat constructor))) (by (try simp only []); omega)
        · have hv1 := hoth n hin (by rw [hnn] at hoo; exact hoo)
          repeat first
            | (apply WL.q; exact rfl; exact rfl; exact rfl; (first | (apply EvW.move; exact rfl) | (apply EvW.assign; exact rfl) | (apply EvW.fieldAddr0; exact rfl; exact FldC.eq) | (apply EvW.load; exact rfl; exact ScalC.eq; (focus ((repeat constructor); done)); exact rfl) | (apply EvW.cmpT; exact rfl; exact rfl; exact rfl; omega) | (apply EvW.pickT; exact rfl; exact rfl) | (apply EvW.idxOwn; exact rfl; exact rfl; exact UndC.eq; exact SzC.eq; (focus ((repeat constructor); done)); omega; omega) | (apply EvW.fldOwn; exact rfl; exact FldC.eq; (focus ((repeat constructor); done)); omega) | (apply EvW.ldFldOwn; exact rfl; exact ScalC.eq; (focus ((repeat constructor); done)); exact fun _ => rfl; omega; exact rfl; exact inferInstance)))
            | refine WC.seq ?_ | refine WC.region ?_ | refine WL.nil ?_ | refine WE.next ?_ | refine WL.wanted rfl rfl rfl ?_ | (apply WL.store; exact rfl; exact rfl; (first | assumption | exact rfl); exact SzC.eq; (first | assumption | exact rfl); (focus ((repeat constructor); done)))
          rw [hnn, hv1]
          repeat first
            | (apply WL.q; exact rfl; exact rfl; exact rfl; (first | (apply EvW.move; exact rfl) | (apply EvW.arN; exact rfl; exact rfl; exact rfl; (first | (refine i64_in ?_ ?_ <;> omega) | (constructor <;> simp only [IntKind.min, IntKind.max, IntKind.signed, IntKind.bits, ↓reduceIte, Bool.false_eq_true] <;> omega)))))
            | refine WC.region ?_ | refine WL.nil ?_ | refine WE.next ?_ | refine WC.skip ?_ | refine WE.out ?_ | refine WC.condF rfl ?_
          exact WE.again (s := n) ((n + 1)) (by omega) (by (focus ((repeat (first | exact trivial | (refine ⟨rfl, ?_⟩))); done))) (fun _ h => (by (try simp only []); exact h.keep (by repeat constructor))) (by (try simp only []); omega)
      · repeat first
          | (apply WL.q; exact rfl; exact rfl; exact rfl; (first | (apply EvW.assign; exact rfl) | (apply EvW.cmpF; exact rfl; exact rfl; exact rfl; omega)))
          | refine WC.seq ?_ | refine WC.region ?_ | refine WL.nil ?_ | refine WE.next ?_ | refine WC.exit ?_ | refine WE.pass ?_ | refine WE.hit ?_ | refine WC.condF rfl ?_ | refine WC.ret ?_
        refine WE.bare ?_
        refine WE.ret1 rfl rfl ?_
        rfl
end Go.Proofs.Ytamofjpadnnppaa
namespace Go.Proofs.Ytamofjpadnnppaa
open Go.ChangeShapes Go.WideShapes Go.ChangeAt Go.RowKit Go.BK
set_option maxRecDepth 100000 in
theorem imageAges_lifted (os : Os) (started : os.Started) (H : Type) (enc : TypeId × Value → H) (F : Stop.Interp) :
    ReturnsInHanded {} Try.checked os 4 .any ((Rows.OpenSpec.upto Rows.imageAgesSpec).pre6 enc Try.prog Try.f4 Rows.imageAgesUptoRow.domain false) (((Rows.OpenSpec.upto Rows.imageAgesSpec).at F).post enc Try.prog Try.f4 false true false false) := by
  refine law_liftedU (C := Try.checked) (s := Rows.imageAgesSpec) (tb := 4) Try.own started (by kernel_rfl) Try.func4 rfl Try.underlying4 rfl Try.laidOut (by kernel_rfl) (by intro ds h; match ds, h with | [d1, d2, d3], _ => rfl)
    (OpenSpec.witness (enc := enc) (C := Try.checked) (s := Rows.OpenSpec.upto Rows.imageAgesSpec) (k := Rows.uptoSmall) rfl false ⟨#[], #[.agg #[.slice none 0 0, .slice none 0 0, .slice none 0 0, .slice none 0 0, .slice none 0 0, .int .i64 0, .int .i64 0, .int .i64 0, .int .i64 0], .int .i64 0, .int .i64 0], []⟩ 8 (by kernel_rfl) (by kernel_rfl) (by kernel_rfl)
      (x := ([.agg [.nil, .nil, .nil, .nil, .nil, .agg [.lit (.int .i64 0), .lit (.int .i64 0), .lit (.int .i64 0), .lit (.int .i64 0)]], .lit (.int .i64 0), .lit (.int .i64 0)], [], [])) (by kernel_rfl) rfl (by kernel_rfl)) ?_
  intro W base args ds p hval hA0 hk
  have hA : DataW.TrodAll enc Try.prog W 0 (fun _ => true) true Try.f4.params.toList args.toList ds p := hA0
  rw [Try.params4] at hA hval
  clear hA0
  obtain ⟨v0, v1, v2, d0, d1, d2, p0, p1, p2, rfl, rfl, rfl, h0, h1, h2⟩ := trodAll_three hA
  obtain ⟨c, rfl, hc, hb0⟩ := argU_agg opensU_config (okWide_struct Try.underlying30 (hval 0 30 v0 rfl rfl)) h0
  obtain ⟨n, rfl, rfl, rfl, wn⟩ := open_int Try.underlying3 (hval 1 3 v1 rfl rfl) h1
  obtain ⟨m, rfl, rfl, rfl, wm⟩ := open_int Try.underlying3 (hval 2 3 v2 rfl rfl) h2
  simp only [Rows.uptoBulkAll] at hk
  have hm : cfgMu c ≤ 1048576 := by omega
  exact (imageAges_law c n m W _ (fun _ h => h) (hc.seen hm) (Cfg.In.small hm)).law (fun _ _ h => h)
theorem imageAges_holds : Rows.ImageAgesUptoSaid :=
  OpenClaim.holds_of_cond 4 Try.f4 rfl rfl rfl rfl rfl rfl rfl ⟨rfl, rfl, rfl, rfl, rfl⟩ rfl rfl rfl rfl rfl (by kernel_rfl) Try.func4 (by kernel_rfl)
    (of_decide_eq_true (by kernel_rfl)) (by unfold Func.isWrapper; first | (rw [if_pos (by decide +kernel)]; kernel_rfl) | (rw [if_neg (by decide +kernel)]; exact ⟨rfl, rfl⟩))
    (fun os started H enc _ F => imageAges_lifted os started H enc F)
end Go.Proofs.Ytamofjpadnnppaa
