/- Own lemmas: the texts TeleC, ImageD, ImageE, ImageF, ImageG, ImageH. -/
import Derived.Test.YtamofjpadnnppaaImagePaM4
namespace Go.Proofs.Ytamofjpadnnppaa
open Go.RowKit Go.BK
theorem of_spec (c : Cfg) (s oc : Int) (w : World) (S : BSet) (hS : (sepL []).sat S w) (h : c.Seen w S) :
    Tri Try.prog 39 #[.agg (cfgC c).toArray, i64 s, i64 oc] w S fun u A => u = .bool (c.mine oc s) ∧ A = [] := by
  refine Tri.enter (l := [.agg (cfgC c).toArray, i64 s, i64 oc]) Try.func39 rfl Try.ntmps39 rfl [(0, .agg (cfgC c).toArray), (1, i64 s), (2, i64 oc)] (subA rfl) hS ?_
  have hsec := h.secs
  have hm : c.mine oc s = (decide (0 ≤ s) && decide (s < c.secs.length) && decide ((c.secs.getD s.toNat default).oc = oc)) := rfl
  rw [hm]
  by_cases h0 : 0 ≤ s
  · by_cases hl : s < c.secs.length
    · rw [decide_eq_true h0, decide_eq_true hl, Bool.true_and, Bool.true_and]
      repeat first
        | refine WC.seq ?_ | refine WC.region ?_
      try refine WL.wanted rfl rfl rfl ?_
      (apply WL.box; exact rfl; exact rfl; exact rfl; intro q)
      repeat first
        | (apply WL.q; exact rfl; exact rfl; exact rfl; (first | (apply EvW.move; exact rfl) | (apply EvW.assign; exact rfl) | (apply EvW.fieldAddr0; exact rfl; exact FldC.eq) | (apply EvW.load; exact rfl; exact ScalC.eq; (focus ((repeat constructor); done)); exact rfl) | (apply EvW.ldFld; exact rfl; exact ScalC.eq; assumption; exact fun _ => rfl; omega; exact rfl; exact inferInstance) | (apply EvW.cmpT; exact rfl; exact rfl; exact rfl; omega) | (apply EvW.cmp; exact rfl; exact rfl; exact rfl) | (apply EvW.pickT; exact rfl; exact rfl) | (apply EvW.lenRow; exact rfl; exact UndC.eq; assumption) | (apply EvW.idxRow; exact rfl; exact rfl; exact UndC.eq; exact SzC.eq; assumption; omega; omega) | (apply EvW.fldRow; exact rfl; exact FldC.eq; assumption; omega)))
        | refine WC.seq ?_ | refine WC.region ?_ | refine WL.nil ?_ | refine WE.next ?_ | refine WC.ret ?_ | refine WL.wanted rfl rfl rfl ?_
      refine WE.bare ?_
      refine WE.ret1 rfl rfl ?_
      exact ⟨rfl, rfl⟩
    · rw [decide_eq_true h0, decide_eq_false hl]
      repeat first
        | refine WC.seq ?_ | refine WC.region ?_
      try refine WL.wanted rfl rfl rfl ?_
      (apply WL.box; exact rfl; exact rfl; exact rfl; intro q)
      repeat first
        | (apply WL.q; exact rfl; exact rfl; exact rfl; (first | (apply EvW.move; exact rfl) | (apply EvW.assign; exact rfl) | (apply EvW.fieldAddr0; exact rfl; exact FldC.eq) | (apply EvW.load; exact rfl; exact ScalC.eq; (focus ((repeat constructor); done)); exact rfl) | (apply EvW.cmpT; exact rfl; exact rfl; exact rfl; omega) | (apply EvW.cmpF; exact rfl; exact rfl; exact rfl; omega) | (apply EvW.pickT; exact rfl; exact rfl) | (apply EvW.pickF; exact rfl; exact rfl) | (apply EvW.lenRow; exact rfl; exact UndC.eq; assumption)))
        | refine WC.seq ?_ | refine WC.region ?_ | refine WL.nil ?_ | refine WE.next ?_ | refine WC.ret ?_ | refine WL.wanted rfl rfl rfl ?_ | refine WL.unwanted rfl rfl rfl rfl ?_
      refine WE.bare ?_
      refine WE.ret1 rfl rfl ?_
      exact ⟨rfl, rfl⟩
  · rw [decide_eq_false h0]
    repeat first
      | refine WC.seq ?_ | refine WC.region ?_
    try refine WL.wanted rfl rfl rfl ?_
    (apply WL.box; exact rfl; exact rfl; exact rfl; intro q)
    repeat first
      | (apply WL.q; exact rfl; exact rfl; exact rfl; (first | (apply EvW.move; exact rfl) | (apply EvW.assign; exact rfl) | (apply EvW.cmpF; exact rfl; exact rfl; exact rfl; omega) | (apply EvW.pickF; exact rfl; exact rfl)))
      | refine WC.seq ?_ | refine WC.region ?_ | refine WL.nil ?_ | refine WE.next ?_ | refine WC.ret ?_ | refine WL.unwanted rfl rfl rfl rfl ?_
    refine WE.bare ?_
    refine WE.ret1 rfl rfl ?_
    exact ⟨rfl, rfl⟩
theorem mine_at (c : Cfg) (oc : Int) (i : Nat) (h : i < c.secs.length) : c.mine oc i = decide ((c.secs.getD i default).oc = oc) := by
  unfold Cfg.mine
  rw [decide_eq_true (show (0 : Int) ≤ i by omega), decide_eq_true (show (i : Int) < c.secs.length by omega)]
  rfl
theorem rshape_spec (c : Cfg) (oc : Int) (w : World) (S : BSet) (hS : (sepL []).sat S w) (h : c.Seen w S) :
    Tri Try.prog 12 #[.agg (cfgC c).toArray, i64 oc] w S fun u A => ∃ a b d e, u = .agg #[a, b, d, e] ∧ A = [.own 3 1 (a) (c.lS oc).length ((c.lS oc).map i64), .own 3 1 (b) (c.lP oc).length ((c.lP oc).map i64), .own 3 1 (d) (c.lC oc).length ((c.lC oc).map i64), .own 3 1 (e) (c.lG oc).length ((c.lG oc).map i64)] := by
  refine Tri.enter (l := [.agg (cfgC c).toArray, i64 oc]) Try.func12 rfl Try.ntmps12 rfl [(0, .agg (cfgC c).toArray), (1, i64 oc)] (subA rfl) hS ?_
  have hsec := h.secs
  have hsig := h.sigs
  have hcrs := h.crs
  have hnS := h.nS
  have hnG := h.nG
  have hnC := h.nC
  repeat first
    | refine WC.seq ?_ | refine WC.region ?_
  try refine WL.wanted rfl rfl rfl ?_
  (apply WL.box; exact rfl; exact rfl; exact rfl; intro q1)
  skip
  try refine WL.wanted rfl rfl rfl ?_
  (apply WL.alloc; exact rfl; exact ZvC.eq; exact rfl; intro r)
  repeat first
    | refine WC.seq ?_ | refine WC.region ?_ | refine WL.nil ?_ | refine WE.next ?_
  try refine WL.wanted rfl rfl rfl ?_
  (apply WL.alloc; exact rfl; exact ZvC.eq; exact rfl; intro hh)
  repeat first
    | (apply WL.q; exact rfl; exact rfl; exact rfl; (first | (apply EvW.move; exact rfl) | (apply EvW.fieldAddr0; exact rfl; exact FldC.eq) | (apply EvW.load; exact rfl; exact ScalC.eq; (focus ((repeat constructor); done)); exact rfl) | (apply EvW.lenRow; exact rfl; exact UndC.eq; assumption)))
    | refine WC.seq ?_ | refine WC.region ?_ | refine WL.nil ?_ | refine WE.next ?_ | refine WC.block ?_
  refine WC.ownNil 3 1 ?_
  refine WC.ownNil 3 1 ?_
  refine WC.ownNil 3 1 ?_
  refine WC.ownNil 3 1 ?_
  refine WC.loopK (σ := Nat × Value × Value) [1, 2, 4, 5, 13, 14] (fun s => [(15, i64 s.1)]) (fun s => [.own 3 1 (s.2.1) (idx (c.pS oc) s.1).length ((idx (c.pS oc) s.1).map i64), .own 3 1 (s.2.2) (idx (c.pP oc) s.1).length ((idx (c.pP oc) s.1).map i64), .own 3 1 (.slice none 0 0) 0 [], .own 3 1 (.slice none 0 0) 0 [], .blk hh #[s.2.1, s.2.2, .slice none 0 0, .slice none 0 0] 51, .blk r #[.slice none 0 0, .slice none 0 0, .slice none 0 0, .slice none 0 0] 51, .blk q1 (cfgC c).toArray 30]) (fun s => s.1 ≤ c.secs.length) (fun s => c.secs.length - s.1) (0, .slice none 0 0, .slice none 0 0) (by (focus ((repeat (first | exact Pick.nil | (apply Pick.cons; exact rfl))); done))) (by (focus ((repeat (first | exact trivial | (refine ⟨rfl, ?_⟩))); done))) (fun _ h => h.keep (by repeat constructor)) (Nat.zero_le _) (fun s hs => ?_)
  obtain ⟨i, a, b⟩ := s
  simp only [List.cons_append, List.nil_append] at hs ⊢
  by_cases hlt : (i : Int) < c.secs.length
  · have hl1 := idx_le (c.pS oc) i
    have hl2 := idx_le (c.pP oc) i
    repeat first
      | (apply WL.q; exact rfl; exact rfl; exact rfl; (first | (apply EvW.move; exact rfl) | (apply EvW.cmpT; exact rfl; exact rfl; exact rfl; omega) | (apply EvW.idxRow; exact rfl; exact rfl; exact UndC.eq; exact SzC.eq; assumption; omega; omega)))
      | refine WC.seq ?_ | refine WC.region ?_ | refine WL.nil ?_ | refine WE.next ?_ | refine WC.block ?_ | refine WC.skip ?_ | refine WC.condT rfl ?_
    (apply WL.q; exact rfl; exact rfl; exact rfl; (apply EvW.ldElem (xs := c.secs) (z := (default : Sec)) (f := secC); exact rfl; exact AggC.eq; exact SzC.eq; exact rfl; exact fun _ => rfl; assumption; omega))
    try refine WL.wanted rfl rfl rfl ?_
    (apply WL.alloc; exact rfl; exact ZvC.eq; exact rfl; intro x)
    have hma := mine_at c oc i (by omega)
    by_cases hm : c.mine oc i = true
    · have hoc : (c.secs.getD ((i : Nat) : Int).toNat default).oc = oc := by rw [hm] at hma; exact of_decide_eq_true hma.symm
      have e1 : idx (c.pS oc) (i + 1) = idx (c.pS oc) i ++ [(i : Int)] := idx_yes hm
      have hl3 := idx_le (c.pS oc) (i + 1)
      by_cases hk : (c.secs.getD ((i : Nat) : Int).toNat default).k = 1
      · have e2 : idx (c.pP oc) (i + 1) = idx (c.pP oc) i ++ [(i : Int)] := idx_yes (by unfold Cfg.pP; rw [hm, decide_eq_true (show (c.secs.getD i default).k = 1 from hk)]; rfl)
        repeat first
          | (apply WL.q; exact rfl; exact rfl; exact rfl; (first | (apply EvW.move; exact rfl) | (apply EvW.assign; exact rfl) | (apply EvW.fieldAddr0; exact rfl; exact FldC.eq) | (apply EvW.load; exact rfl; exact ScalC.eq; (focus ((repeat constructor); done)); exact rfl) | (apply EvW.cmpF; exact rfl; exact rfl; exact rfl; omega)))
          | refine WC.seq ?_ | refine WC.region ?_ | refine WL.nil ?_ | refine WE.next ?_ | refine WC.skip ?_ | refine WC.condF rfl ?_ | (apply WL.store; exact rfl; exact rfl; (first | assumption | exact rfl); exact SzC.eq; (first | assumption | exact rfl); (focus ((repeat constructor); done)))
        try refine WL.wanted rfl rfl rfl ?_
        (apply WL.buildSlice; exact rfl; exact UndC.eq; exact SzC.eq; exact ZvC.eq; exact rfl; exact rfl; exact rfl; ((focus ((repeat (first | exact Flat.nil | (apply Flat.one; (first | exact rfl | assumption)) | (apply Flat.cons; exact rfl; exact rfl))); done))); exact rfl; exact rfl; intro c1)
        try refine WL.wanted rfl rfl rfl ?_
        (apply WL.append; exact rfl; exact rfl; exact rfl; exact UndC.eq; exact SzC.eq; exact ByC.eq; exact ZvC.eq; exact rfl; (first | exact notInt_sl UndC.eq | exact notInt_st UndC.eq); exact rfl; (focus ((repeat constructor); done)))
        · exact adds_blk .head rfl rfl
        · (omega)
        intro a2
        refine WL.ownEq (cs' := (idx (c.pS oc) (i + 1)).map i64) (len' := (idx (c.pS oc) (i + 1)).length) .head (by rw [e1]; simp) (by rw [e1]; simp) ?_
        (first | refine WL.slOwn (v := a2) (by repeat constructor) ?_ | refine WC.slOwn (v := a2) (by repeat constructor) ?_)
        intro hc_a2 ho_a2
        repeat first
          | (apply WL.q; exact rfl; exact rfl; exact rfl; (first | (apply EvW.move; exact rfl) | (apply EvW.fieldAddr0; exact rfl; exact FldC.eq) | (apply EvW.load; exact rfl; exact ScalC.eq; (focus ((repeat constructor); done)); exact rfl) | (apply EvW.cmpT; exact rfl; exact rfl; exact rfl; omega)))
          | refine WC.seq ?_ | refine WC.region ?_ | refine WL.nil ?_ | refine WE.next ?_ | refine WC.condT rfl ?_ | (apply WL.store; exact rfl; exact rfl; (first | assumption | exact rfl); exact SzC.eq; (first | assumption | exact rfl); (focus ((repeat constructor); done)))
        try refine WL.wanted rfl rfl rfl ?_
        (apply WL.buildSlice; exact rfl; exact UndC.eq; exact SzC.eq; exact ZvC.eq; exact rfl; exact rfl; exact rfl; ((focus ((repeat (first | exact Flat.nil | (apply Flat.one; (first | exact rfl | assumption)) | (apply Flat.cons; exact rfl; exact rfl))); done))); exact rfl; exact rfl; intro c2)
        try refine WL.wanted rfl rfl rfl ?_
        (apply WL.append; exact rfl; exact rfl; exact rfl; exact UndC.eq; exact SzC.eq; exact ByC.eq; exact ZvC.eq; exact rfl; (first | exact notInt_sl UndC.eq | exact notInt_st UndC.eq); exact rfl; (focus ((repeat constructor); done)))
        · exact adds_blk .head rfl rfl
        · (omega)
        intro b2
        refine WL.ownEq (cs' := (idx (c.pP oc) (i + 1)).map i64) (len' := (idx (c.pP oc) (i + 1)).length) .head (by rw [e2]; simp) (by rw [e2]; simp) ?_
        (first | refine WL.slOwn (v := b2) (by repeat constructor) ?_ | refine WC.slOwn (v := b2) (by repeat constructor) ?_)
        intro hc_b2 ho_b2
        repeat first
          | (apply WL.q; exact rfl; exact rfl; exact rfl; (first | (apply EvW.move; exact rfl) | (apply EvW.fieldAddr0; exact rfl; exact FldC.eq) | (apply EvW.arN; exact rfl; exact rfl; exact rfl; refine i64_in ?_ ?_ <;> omega)))
          | refine WC.region ?_ | refine WL.nil ?_ | refine WE.next ?_ | refine WE.out ?_ | (apply WL.store; exact rfl; exact rfl; (first | assumption | exact rfl); exact SzC.eq; (first | assumption | exact rfl); (focus ((repeat constructor); done)))
        exact WE.again (s := (i, a, b)) ((i + 1, a2, b2)) (by simp only []; omega) (by (focus ((repeat (first | exact trivial | (refine ⟨rfl, ?_⟩))); done))) (fun _ h => (by (try simp only []); exact h.keep (by repeat constructor))) (by (try simp only []); omega)
      · have e2 : idx (c.pP oc) (i + 1) = idx (c.pP oc) i := idx_no (by unfold Cfg.pP; rw [decide_eq_false (show ¬ (c.secs.getD i default).k = 1 from hk), Bool.and_false])
        repeat first
          | (apply WL.q; exact rfl; exact rfl; exact rfl; (first | (apply EvW.move; exact rfl) | (apply EvW.assign; exact rfl) | (apply EvW.fieldAddr0; exact rfl; exact FldC.eq) | (apply EvW.load; exact rfl; exact ScalC.eq; (focus ((repeat constructor); done)); exact rfl) | (apply EvW.cmpF; exact rfl; exact rfl; exact rfl; omega)))
          | refine WC.seq ?_ | refine WC.region ?_ | refine WL.nil ?_ | refine WE.next ?_ | refine WC.skip ?_ | refine WC.condF rfl ?_ | (apply WL.store; exact rfl; exact rfl; (first | assumption | exact rfl); exact SzC.eq; (first | assumption | exact rfl); (focus ((repeat constructor); done)))
        try refine WL.wanted rfl rfl rfl ?_
        (apply WL.buildSlice; exact rfl; exact UndC.eq; exact SzC.eq; exact ZvC.eq; exact rfl; exact rfl; exact rfl; ((focus ((repeat (first | exact Flat.nil | (apply Flat.one; (first | exact rfl | assumption)) | (apply Flat.cons; exact rfl; exact rfl))); done))); exact rfl; exact rfl; intro c1)
        try refine WL.wanted rfl rfl rfl ?_
        (apply WL.append; exact rfl; exact rfl; exact rfl; exact UndC.eq; exact SzC.eq; exact ByC.eq; exact ZvC.eq; exact rfl; (first | exact notInt_sl UndC.eq | exact notInt_st UndC.eq); exact rfl; (focus ((repeat constructor); done)))
        · exact adds_blk .head rfl rfl
        · (omega)
        intro a2
        refine WL.ownEq (cs' := (idx (c.pS oc) (i + 1)).map i64) (len' := (idx (c.pS oc) (i + 1)).length) .head (by rw [e1]; simp) (by rw [e1]; simp) ?_
        (first | refine WL.slOwn (v := a2) (by repeat constructor) ?_ | refine WC.slOwn (v := a2) (by repeat constructor) ?_)
        intro hc_a2 ho_a2
        repeat first
          | (apply WL.q; exact rfl; exact rfl; exact rfl; (first | (apply EvW.move; exact rfl) | (apply EvW.fieldAddr0; exact rfl; exact FldC.eq) | (apply EvW.load; exact rfl; exact ScalC.eq; (focus ((repeat constructor); done)); exact rfl) | (apply EvW.cmpF; exact rfl; exact rfl; exact rfl; omega) | (apply EvW.arN; exact rfl; exact rfl; exact rfl; refine i64_in ?_ ?_ <;> omega)))
          | refine WC.seq ?_ | refine WC.region ?_ | refine WL.nil ?_ | refine WE.next ?_ | refine WC.skip ?_ | refine WE.out ?_ | refine WC.condF rfl ?_ | (apply WL.store; exact rfl; exact rfl; (first | assumption | exact rfl); exact SzC.eq; (first | assumption | exact rfl); (focus ((repeat constructor); done)))
        exact WE.again (s := (i, a, b)) ((i + 1, a2, b)) (by simp only []; omega) (by (focus ((repeat (first | exact trivial | (refine ⟨rfl, ?_⟩))); done))) (fun _ h => (by (try simp only []); rw [e2]; exact h.keep (by repeat constructor))) (by (try simp only []); omega)
    · have hm : c.mine oc i = false := by simpa using hm
      have hoc : ¬ (c.secs.getD ((i : Nat) : Int).toNat default).oc = oc := by rw [hm] at hma; exact of_decide_eq_false hma.symm
      have e1 : idx (c.pS oc) (i + 1) = idx (c.pS oc) i := idx_no hm
      have e2 : idx (c.pP oc) (i + 1) = idx (c.pP oc) i := idx_no (by unfold Cfg.pP; rw [hm, Bool.false_and])
      repeat first
        | (apply WL.q; exact rfl; exact rfl; exact rfl; (first | (apply EvW.move; exact rfl) | (apply EvW.assign; exact rfl) | (apply EvW.fieldAddr0; exact rfl; exact FldC.eq) | (apply EvW.load; exact rfl; exact ScalC.eq; (focus ((repeat constructor); done)); exact rfl) | (apply EvW.cmpT; exact rfl; exact rfl; exact rfl; omega) | (apply EvW.arN; exact rfl; exact rfl; exact rfl; refine i64_in ?_ ?_ <;> omega)))
        | refine WC.seq ?_ | refine WC.region ?_ | refine WL.nil ?_ | refine WE.next ?_ | refine WC.exit ?_ | refine WE.pass ?_ | refine WE.hit ?_ | refine WC.condT rfl ?_ | (apply WL.store; exact rfl; exact rfl; (first | assumption | exact rfl); exact SzC.eq; (first | assumption | exact rfl); (focus ((repeat constructor); done)))
      exact WE.again (s := (i, a, b)) ((i + 1, a, b)) (by simp only []; omega) (by (focus ((repeat (first | exact trivial | (refine ⟨rfl, ?_⟩))); done))) (fun _ h => (by (try simp only []); rw [e1, e2]; exact h.keep (by repeat constructor))) (by (try simp only []); omega)
  obtain rfl : i = c.secs.length := by omega
  rw [show idx (c.pS oc) c.secs.length = c.lS oc from rfl, show idx (c.pP oc) c.secs.length = c.lP oc from rfl]
  repeat first
    | (apply WL.q; exact rfl; exact rfl; exact rfl; (first | (apply EvW.move; exact rfl) | (apply EvW.fieldAddr0; exact rfl; exact FldC.eq) | (apply EvW.load; exact rfl; exact ScalC.eq; (focus ((repeat constructor); done)); exact rfl) | (apply EvW.cmpF; exact rfl; exact rfl; exact rfl; omega) | (apply EvW.lenRow; exact rfl; exact UndC.eq; assumption)))
    | refine WC.seq ?_ | refine WC.region ?_ | refine WL.nil ?_ | refine WE.next ?_ | refine WC.block ?_ | refine WC.exit ?_ | refine WE.pass ?_ | refine WE.hit ?_ | refine WC.condF rfl ?_
  refine WC.loopK (σ := Nat × Value) [1, 2, 4, 5, 41, 42] (fun s => [(43, i64 s.1)]) (fun s => [.own 3 1 (s.2) (idx (c.pC oc) s.1).length ((idx (c.pC oc) s.1).map i64), .own 3 1 (a) (c.lS oc).length ((c.lS oc).map i64), .own 3 1 (b) (c.lP oc).length ((c.lP oc).map i64), .own 3 1 (.slice none 0 0) 0 [], .blk hh #[a, b, s.2, .slice none 0 0] 51, .blk r #[.slice none 0 0, .slice none 0 0, .slice none 0 0, .slice none 0 0] 51, .blk q1 (cfgC c).toArray 30]) (fun s => s.1 ≤ c.crs.length) (fun s => c.crs.length - s.1) (0, .slice none 0 0) (by (focus ((repeat (first | exact Pick.nil | (apply Pick.cons; exact rfl))); done))) (by (focus ((repeat (first | exact trivial | (refine ⟨rfl, ?_⟩))); done))) (fun _ h => h.keep (by repeat constructor)) (Nat.zero_le _) (fun s hs => ?_)
  obtain ⟨i, d⟩ := s
  simp only [List.cons_append, List.nil_append] at hs ⊢
  by_cases hlt2 : (i : Int) < c.crs.length
  · have hl1 := idx_le (c.pC oc) i
    have hl3 := idx_le (c.pC oc) (i + 1)
    repeat first
      | (apply WL.q; exact rfl; exact rfl; exact rfl; (first | (apply EvW.move; exact rfl) | (apply EvW.assign; exact rfl) | (apply EvW.cmpT; exact rfl; exact rfl; exact rfl; omega) | (apply EvW.loadAgg; exact rfl; exact AggC.eq; exact SzC.eq; (focus ((repeat constructor); done)); (focus ((repeat (first | exact SubL.nil | apply SubL.cons | apply SubL.succ)); done))) | (apply EvW.idxRow; exact rfl; exact rfl; exact UndC.eq; exact SzC.eq; assumption; omega; omega) | (apply EvW.ldInt; exact rfl; exact ScalC.eq; assumption; omega)))
      | refine WC.seq ?_ | refine WC.region ?_ | refine WL.nil ?_ | refine WE.next ?_ | refine WC.block ?_ | refine WC.skip ?_ | refine WC.condT rfl ?_
    try refine WL.wanted rfl rfl rfl ?_
    apply WL.callA ([])
    · exact rfl
    · exact rfl
    · exact fun w => Try.call39 _ w
    · (focus ((repeat constructor); done))
    · exact fun w1 S1 hS1 hs1 ho1 => of_spec c (c.crs.getD ((i : Nat) : Int).toNat 0) oc w1 S1 hS1 (h.down hs1)
    rintro _ _ ⟨rfl, rfl⟩
    first | refine WL.app4 ?_ | refine WL.app3 ?_ | refine WL.app2 ?_ | refine WL.app1 ?_ | refine WL.app0 ?_ | skip
    by_cases hm : c.mine oc (c.crs.getD ((i : Nat) : Int).toNat 0) = true
    · rw [hm]
      have e1 : idx (c.pC oc) (i + 1) = idx (c.pC oc) i ++ [(i : Int)] := idx_yes hm
      repeat first
        | (apply WL.q; exact rfl; exact rfl; exact rfl; (first | (apply EvW.move; exact rfl) | (apply EvW.fieldAddr0; exact rfl; exact FldC.eq) | (apply EvW.load; exact rfl; exact ScalC.eq; (focus ((repeat constructor); done)); exact rfl)))
        | refine WC.region ?_ | refine WL.nil ?_ | refine WE.next ?_ | refine WC.condT rfl ?_
      try refine WL.wanted rfl rfl rfl ?_
      (apply WL.buildSlice; exact rfl; exact UndC.eq; exact SzC.eq; exact ZvC.eq; exact rfl; exact rfl; exact rfl; ((focus ((repeat (first | exact Flat.nil | (apply Flat.one; (first | exact rfl | assumption)) | (apply Flat.cons; exact rfl; exact rfl))); done))); exact rfl; exact rfl; intro c1)
      try refine WL.wanted rfl rfl rfl ?_
      (apply WL.append; exact rfl; exact rfl; exact rfl; exact UndC.eq; exact SzC.eq; exact ByC.eq; exact ZvC.eq; exact rfl; (first | exact notInt_sl UndC.eq | exact notInt_st UndC.eq); exact rfl; (focus ((repeat constructor); done)))
      · exact adds_blk .head rfl rfl
      · (omega)
      intro d2
      refine WL.ownEq (cs' := (idx (c.pC oc) (i + 1)).map i64) (len' := (idx (c.pC oc) (i + 1)).length) .head (by rw [e1]; simp) (by rw [e1]; simp) ?_
      (first | refine WL.slOwn (v := d2) (by repeat constructor) ?_ | refine WC.slOwn (v := d2) (by repeat constructor) ?_)
      intro hc_d2 ho_d2
      repeat first
        | (apply WL.q; exact rfl; exact rfl; exact rfl; (first | (apply EvW.move; exact rfl) | (apply EvW.fieldAddr0; exact rfl; exact FldC.eq) | (apply EvW.arN; exact rfl; exact rfl; exact rfl; refine i64_in ?_ ?_ <;> omega)))
        | refine WC.region ?_ | refine WL.nil ?_ | refine WE.next ?_ | refine WE.out ?_ | (apply WL.store; exact rfl; exact rfl; (first | assumption | exact rfl); exact SzC.eq; (first | assumption | exact rfl); (focus ((repeat constructor); done)))
      exact WE.again (s := (i, d)) ((i + 1, d2)) (by simp only []; omega) (by (focus ((repeat (first | exact trivial | (refine ⟨rfl, ?_⟩))); done))) (fun _ h => (by (try simp only []); exact h.keep (by repeat constructor))) (by (try simp only []); omega)
    · have hm : c.mine oc (c.crs.getD ((i : Nat) : Int).toNat 0) = false := by simpa using hm
      rw [hm]
      have e1 : idx (c.pC oc) (i + 1) = idx (c.pC oc) i := idx_no hm
      repeat first
        | (apply WL.q; exact rfl; exact rfl; exact rfl; (first | (apply EvW.move; exact rfl) | (apply EvW.arN; exact rfl; exact rfl; exact rfl; refine i64_in ?_ ?_ <;> omega)))
        | refine WC.region ?_ | refine WL.nil ?_ | refine WE.next ?_ | refine WC.skip ?_ | refine WE.out ?_ | refine WC.condF rfl ?_
      exact WE.again (s := (i, d)) ((i + 1, d)) (by simp only []; omega) (by (focus ((repeat (first | exact trivial | (refine ⟨rfl, ?_⟩))); done))) (fun _ h => (by (try simp only []); rw [e1]; exact h.keep (by repeat constructor))) (by (try simp only []); omega)
  obtain rfl : i = c.crs.length := by omega
  rw [show idx (c.pC oc) c.crs.length = c.lC oc from rfl]
  repeat first
    | (apply WL.q; exact rfl; exact rfl; exact rfl; (first | (apply EvW.move; exact rfl) | (apply EvW.fieldAddr0; exact rfl; exact FldC.eq) | (apply EvW.load; exact rfl; exact ScalC.eq; (focus ((repeat constructor); done)); exact rfl) | (apply EvW.cmpF; exact rfl; exact rfl; exact rfl; omega) | (apply EvW.lenRow; exact rfl; exact UndC.eq; assumption)))
    | refine WC.seq ?_ | refine WC.region ?_ | refine WL.nil ?_ | refine WE.next ?_ | refine WC.block ?_ | refine WC.exit ?_ | refine WE.pass ?_ | refine WE.hit ?_ | refine WC.condF rfl ?_
  refine WC.loopK (σ := Nat × Value) [1, 2, 4, 5, 60, 61] (fun s => [(62, i64 s.1)]) (fun s => [.own 3 1 (s.2) (idx (c.pG oc) s.1).length ((idx (c.pG oc) s.1).map i64), .own 3 1 (a) (c.lS oc).length ((c.lS oc).map i64), .own 3 1 (b) (c.lP oc).length ((c.lP oc).map i64), .own 3 1 (d) (c.lC oc).length ((c.lC oc).map i64), .blk hh #[a, b, d, s.2] 51, .blk r #[.slice none 0 0, .slice none 0 0, .slice none 0 0, .slice none 0 0] 51, .blk q1 (cfgC c).toArray 30]) (fun s => s.1 ≤ c.sigs.length) (fun s => c.sigs.length - s.1) (0, .slice none 0 0) (by (focus ((repeat (first | exact Pick.nil | (apply Pick.cons; exact rfl))); done))) (by (focus ((repeat (first | exact trivial | (refine ⟨rfl, ?_⟩))); done))) (fun _ h => h.keep (by repeat constructor)) (Nat.zero_le _) (fun s hs => ?_)
  obtain ⟨i, e⟩ := s
  simp only [List.cons_append, List.nil_append] at hs ⊢
  by_cases hlt3 : (i : Int) < c.sigs.length
  · have hl1 := idx_le (c.pG oc) i
    have hl3 := idx_le (c.pG oc) (i + 1)
    repeat first
      | (apply WL.q; exact rfl; exact rfl; exact rfl; (first | (apply EvW.move; exact rfl) | (apply EvW.cmpT; exact rfl; exact rfl; exact rfl; omega) | (apply EvW.idxRow; exact rfl; exact rfl; exact UndC.eq; exact SzC.eq; assumption; omega; omega)))
      | refine WC.seq ?_ | refine WC.region ?_ | refine WL.nil ?_ | refine WE.next ?_ | refine WC.block ?_ | refine WC.skip ?_ | refine WC.condT rfl ?_
    (apply WL.q; exact rfl; exact rfl; exact rfl; (apply EvW.ldElem (xs := c.sigs) (z := (default : Sig)) (f := sigC); exact rfl; exact AggC.eq; exact SzC.eq; exact rfl; exact fun _ => rfl; assumption; omega))
    try refine WL.wanted rfl rfl rfl ?_
    (apply WL.alloc; exact rfl; exact ZvC.eq; exact rfl; intro x)
    repeat first
      | (apply WL.q; exact rfl; exact rfl; exact rfl; (first | (apply EvW.move; exact rfl) | (apply EvW.assign; exact rfl) | (apply EvW.fieldAddr0; exact rfl; exact FldC.eq) | (apply EvW.load; exact rfl; exact ScalC.eq; (focus ((repeat constructor); done)); exact rfl) | (apply EvW.loadAgg; exact rfl; exact AggC.eq; exact SzC.eq; (focus ((repeat constructor); done)); (focus ((repeat (first | exact SubL.nil | apply SubL.cons | apply SubL.succ)); done)))))
      | refine WC.seq ?_ | refine WC.region ?_ | refine WL.nil ?_ | refine WE.next ?_ | (apply WL.store; exact rfl; exact rfl; (first | assumption | exact rfl); exact SzC.eq; (first | assumption | exact rfl); (focus ((repeat constructor); done)))
    try refine WL.wanted rfl rfl rfl ?_
    apply WL.callA ([])
    · exact rfl
    · exact rfl
    · exact fun w => Try.call39 _ w
    · (focus ((repeat constructor); done))
    · exact fun w1 S1 hS1 hs1 ho1 => of_spec c ((c.sigs.getD ((i : Nat) : Int).toNat default).s) oc w1 S1 hS1 (h.down hs1)
    rintro _ _ ⟨rfl, rfl⟩
    first | refine WL.app4 ?_ | refine WL.app3 ?_ | refine WL.app2 ?_ | refine WL.app1 ?_ | refine WL.app0 ?_ | skip
    by_cases hm : c.mine oc (c.sigs.getD ((i : Nat) : Int).toNat default).s = true
    · rw [hm]
      have e1 : idx (c.pG oc) (i + 1) = idx (c.pG oc) i ++ [(i : Int)] := idx_yes hm
      repeat first
        | (apply WL.q; exact rfl; exact rfl; exact rfl; (first | (apply EvW.move; exact rfl) | (apply EvW.fieldAddr0; exact rfl; exact FldC.eq) | (apply EvW.load; exact rfl; exact ScalC.eq; (focus ((repeat constructor); done)); exact rfl)))
        | refine WC.region ?_ | refine WL.nil ?_ | refine WE.next ?_ | refine WC.condT rfl ?_
      try refine WL.wanted rfl rfl rfl ?_
      (apply WL.buildSlice; exact rfl; exact UndC.eq; exact SzC.eq; exact ZvC.eq; exact rfl; exact rfl; exact rfl; ((focus ((repeat (first | exact Flat.nil | (apply Flat.one; (first | exact rfl | assumption)) | (apply Flat.cons; exact rfl; exact rfl))); done))); exact rfl; exact rfl; intro c1)
      try refine WL.wanted rfl rfl rfl ?_
      (apply WL.append; exact rfl; exact rfl; exact rfl; exact UndC.eq; exact SzC.eq; exact ByC.eq; exact ZvC.eq; exact rfl; (first | exact notInt_sl UndC.eq | exact notInt_st UndC.eq); exact rfl; (focus ((repeat constructor); done)))
      · exact adds_blk .head rfl rfl
      · (omega)
      intro e2
      refine WL.ownEq (cs' := (idx (c.pG oc) (i + 1)).map i64) (len' := (idx (c.pG oc) (i + 1)).length) .head (by rw [e1]; simp) (by rw [e1]; simp) ?_
      (first | refine WL.slOwn (v := e2) (by repeat constructor) ?_ | refine WC.slOwn (v := e2) (by repeat constructor) ?_)
      intro hc_e2 ho_e2
      repeat first
        | (apply WL.q; exact rfl; exact rfl; exact rfl; (first | (apply EvW.move; exact rfl) | (apply EvW.fieldAddr0; exact rfl; exact FldC.eq) | (apply EvW.arN; exact rfl; exact rfl; exact rfl; refine i64_in ?_ ?_ <;> omega)))
        | refine WC.region ?_ | refine WL.nil ?_ | refine WE.next ?_ | refine WE.out ?_ | (apply WL.store; exact rfl; exact rfl; (first | assumption | exact rfl); exact SzC.eq; (first | assumption | exact rfl); (focus ((repeat constructor); done)))
      exact WE.again (s := (i, e)) ((i + 1, e2)) (by simp only []; omega) (by (focus ((repeat (first | exact trivial | (refine ⟨rfl, ?_⟩))); done))) (fun _ h => (by (try simp only []); exact h.keep (by repeat constructor))) (by (try simp only []); omega)
    · have hm : c.mine oc (c.sigs.getD ((i : Nat) : Int).toNat default).s = false := by simpa using hm
      rw [hm]
      have e1 : idx (c.pG oc) (i + 1) = idx (c.pG oc) i := idx_no hm
      repeat first
        | (apply WL.q; exact rfl; exact rfl; exact rfl; (first | (apply EvW.move; exact rfl) | (apply EvW.arN; exact rfl; exact rfl; exact rfl; refine i64_in ?_ ?_ <;> omega)))
        | refine WC.region ?_ | refine WL.nil ?_ | refine WE.next ?_ | refine WC.skip ?_ | refine WE.out ?_ | refine WC.condF rfl ?_
      exact WE.again (s := (i, e)) ((i + 1, e)) (by simp only []; omega) (by (focus ((repeat (first | exact trivial | (refine ⟨rfl, ?_⟩))); done))) (fun _ h => (by (try simp only []); rw [e1]; exact h.keep (by repeat constructor))) (by (try simp only []); omega)
  obtain rfl : i = c.sigs.length := by omega
  rw [show idx (c.pG oc) c.sigs.length = c.lG oc from rfl]
  (first | refine WL.slOwn (v := a) (by repeat constructor) ?_ | refine WC.slOwn (v := a) (by repeat constructor) ?_)
  intro hc_a ho_a
  (first | refine WL.slOwn (v := b) (by repeat constructor) ?_ | refine WC.slOwn (v := b) (by repeat constructor) ?_)
  intro hc_b ho_b
  (first | refine WL.slOwn (v := d) (by repeat constructor) ?_ | refine WC.slOwn (v := d) (by repeat constructor) ?_)
  intro hc_d ho_d
  (first | refine WL.slOwn (v := e) (by repeat constructor) ?_ | refine WC.slOwn (v := e) (by repeat constructor) ?_)
  intro hc_e ho_e
  have hall : ([a, b, d, e] : List Value).all (·.oneCell') = true := by
    simp at ho_a ho_b ho_d ho_e
    simp [ho_a, ho_b, ho_d, ho_e]
  clear hc_a hc_b hc_d hc_e ho_a ho_b ho_d ho_e
  repeat first
    | (apply WL.q; exact rfl; exact rfl; exact rfl; (first | (apply EvW.cmpF; exact rfl; exact rfl; exact rfl; omega) | (apply EvW.loadAgg; exact rfl; exact AggC.eq; exact SzC.eq; (focus ((repeat constructor); done)); (focus ((repeat (first | exact SubL.nil | apply SubL.cons | apply SubL.succ)); done)))))
    | refine WC.seq ?_ | refine WC.region ?_ | refine WL.nil ?_ | refine WE.next ?_ | refine WC.exit ?_ | refine WE.pass ?_ | refine WE.hit ?_ | refine WC.condF rfl ?_ | refine WC.ret ?_ | (apply WL.store; exact rfl; exact rfl; (first | assumption | exact rfl); exact SzC.eq; (first | assumption | exact rfl); (focus ((repeat constructor); done)))
  (apply WE.retC (A' := [.own 3 1 (a) (c.lS oc).length ((c.lS oc).map i64), .own 3 1 (b) (c.lP oc).length ((c.lP oc).map i64), .own 3 1 (d) (c.lC oc).length ((c.lC oc).map i64), .own 3 1 (e) (c.lG oc).length ((c.lG oc).map i64)]); exact rfl; exact rfl; (focus ((repeat constructor); done)); exact AggC.eq; exact SzC.eq; exact fun _ h => h.keep (by repeat constructor))
  exact ⟨a, b, d, e, rfl, rfl⟩
end Go.Proofs.Ytamofjpadnnppaa
namespace Go.Proofs.Ytamofjpadnnppaa
open Go.RowKit Go.BK
theorem all_flat {α : Type} {f : α → List Value} (h : ∀ a, (f a).all (·.oneCell') = true) (l : List α) : (l.flatMap f).all (·.oneCell') = true := by
  rw [List.all_eq_true]
  intro x hx
  obtain ⟨s, _, hs⟩ := List.mem_flatMap.1 hx
  exact List.all_eq_true.1 (h s) x hs
theorem all_i64 (l : List Int) : (l.map i64).all (·.oneCell') = true := by
  rw [List.all_eq_true]
  intro x hx
  obtain ⟨s, _, rfl⟩ := List.mem_map.1 hx
  rfl
theorem cloneS_spec (ds : List Sec) (v : Value) (w : World) (S : BSet) (hS : (sepL []).sat S w) (hv : Sees w S (.row 3 v ds.length (ds.flatMap secC))) (hn : ds.length ≤ 1048576) :
    Tri Try.prog 24 #[v] w S fun u A => A = [.own 47 3 u ds.length (ds.flatMap secC)] := by
  refine Tri.enter (l := [v]) Try.func24 rfl Try.ntmps24 rfl [(0, v)] (subA rfl) hS ?_
  rcases id hv.row_shape with ⟨p, cap, rfl, h0, h1⟩ | ⟨b, off, cap, rfl, h1⟩
  · cases p with
    | none =>
      obtain rfl : ds = [] := List.length_eq_zero_iff.1 h0
      refine WC.ownNil 47 3 ?_
      repeat first
        | (apply WL.q; exact rfl; exact rfl; exact rfl; (first | (apply EvW.move; exact rfl) | (apply EvW.assign; exact rfl) | (apply EvW.eqNilT; exact rfl; exact rfl; exact UndC.eq)))
        | refine WC.seq ?_ | refine WC.region ?_ | refine WL.nil ?_ | refine WE.next ?_ | refine WC.condT rfl ?_ | refine WC.ret ?_ | refine WE.passRet ?_
      refine WE.ret1 rfl rfl ?_
      exact rfl
    | some p =>
      repeat first
        | (apply WL.q; exact rfl; exact rfl; exact rfl; (first | (apply EvW.move; exact rfl) | (apply EvW.assign; exact rfl) | (apply EvW.eqNilF; exact rfl; exact rfl; exact UndC.eq)))
        | refine WC.seq ?_ | refine WC.region ?_ | refine WL.nil ?_ | refine WE.next ?_ | refine WC.skip ?_ | refine WC.condF rfl ?_
      try refine WL.wanted rfl rfl rfl ?_
      (apply WL.buildSlice; exact rfl; exact UndC.eq; exact SzC.eq; exact ZvC.eq; exact rfl; exact rfl; exact rfl; ((focus ((repeat (first | exact Flat.nil | (apply Flat.one; (first | exact rfl | assumption)) | (apply Flat.cons; exact rfl; exact rfl))); done))); exact rfl; exact rfl; intro k0)
      refine WL.toOwn (bl := k0) 0 3 .head rfl ?_
      repeat first
        | (apply WL.q; exact rfl; exact rfl; exact rfl; (first | (apply EvW.move; exact rfl)))
      try refine WL.wanted rfl rfl rfl ?_
      (apply WL.append; exact rfl; exact rfl; exact rfl; exact UndC.eq; exact SzC.eq; exact ByC.eq; exact ZvC.eq; exact rfl; (first | exact notInt_sl UndC.eq | exact notInt_st UndC.eq); exact rfl; (focus ((repeat constructor); done)))
      · exact (adds_row hv (all_flat (fun _ => rfl) _))
      · (simp; omega)
      intro v1
      refine WL.ownEq (cs' := ds.flatMap secC) (len' := ds.length) .head (by simp) (by simp) ?_
      repeat first
        | (apply WL.q; exact rfl; exact rfl; exact rfl; (first | (apply EvW.assign; exact rfl)))
        | refine WL.nil ?_ | refine WE.next ?_ | refine WC.ret ?_
      refine WE.ret1 rfl rfl ?_
      exact rfl
  · repeat first
      | (apply WL.q; exact rfl; exact rfl; exact rfl; (first | (apply EvW.move; exact rfl) | (apply EvW.assign; exact rfl) | (apply EvW.eqNilF; exact rfl; exact rfl; exact UndC.eq)))
      | refine WC.seq ?_ | refine WC.region ?_ | refine WL.nil ?_ | refine WE.next ?_ | refine WC.skip ?_ | refine WC.condF rfl ?_
    try refine WL.wanted rfl rfl rfl ?_
    (apply WL.buildSlice; exact rfl; exact UndC.eq; exact SzC.eq; exact ZvC.eq; exact rfl; exact rfl; exact rfl; ((focus ((repeat (first | exact Flat.nil | (apply Flat.one; (first | exact rfl | assumption)) | (apply Flat.cons; exact rfl; exact rfl))); done))); exact rfl; exact rfl; intro k0)
    refine WL.toOwn (bl := k0) 0 3 .head rfl ?_
    repeat first
      | (apply WL.q; exact rfl; exact rfl; exact rfl; (first | (apply EvW.move; exact rfl)))
    try refine WL.wanted rfl rfl rfl ?_
    (apply WL.append; exact rfl; exact rfl; exact rfl; exact UndC.eq; exact SzC.eq; exact ByC.eq; exact ZvC.eq; exact rfl; (first | exact notInt_sl UndC.eq | exact notInt_st UndC.eq); exact rfl; (focus ((repeat constructor); done)))
    · exact (adds_row hv (all_flat (fun _ => rfl) _))
    · (simp; omega)
    intro v1
    refine WL.ownEq (cs' := ds.flatMap secC) (len' := ds.length) .head (by simp) (by simp) ?_
    repeat first
      | (apply WL.q; exact rfl; exact rfl; exact rfl; (first | (apply EvW.assign; exact rfl)))
      | refine WL.nil ?_ | refine WE.next ?_ | refine WC.ret ?_
    refine WE.ret1 rfl rfl ?_
    exact rfl
theorem cloneG_spec (ds : List Sig) (v : Value) (w : World) (S : BSet) (hS : (sepL []).sat S w) (hv : Sees w S (.row 2 v ds.length (ds.flatMap sigC))) (hn : ds.length ≤ 1048576) :
    Tri Try.prog 26 #[v] w S fun u A => A = [.own 70 2 u ds.length (ds.flatMap sigC)] := by
  refine Tri.enter (l := [v]) Try.func26 rfl Try.ntmps26 rfl [(0, v)] (subA rfl) hS ?_
  rcases id hv.row_shape with ⟨p, cap, rfl, h0, h1⟩ | ⟨b, off, cap, rfl, h1⟩
  · cases p with
    | none =>
      obtain rfl : ds = [] := List.length_eq_zero_iff.1 h0
      refine WC.ownNil 70 2 ?_
      repeat first
        | (apply WL.q; exact rfl; exact rfl; exact rfl; (first | (apply EvW.move; exact rfl) | (apply EvW.assign; exact rfl) | (apply EvW.eqNilT; exact rfl; exact rfl; exact UndC.eq)))
        | refine WC.seq ?_ | refine WC.region ?_ | refine WL.nil ?_ | refine WE.next ?_ | refine WC.condT rfl ?_ | refine WC.ret ?_ | refine WE.passRet ?_
      refine WE.ret1 rfl rfl ?_
      exact rfl
    | some p =>
      repeat first
        | (apply WL.q; exact rfl; exact rfl; exact rfl; (first | (apply EvW.move; exact rfl) | (apply EvW.assign; exact rfl) | (apply EvW.eqNilF; exact rfl; exact rfl; exact UndC.eq)))
        | refine WC.seq ?_ | refine WC.region ?_ | refine WL.nil ?_ | refine WE.next ?_ | refine WC.skip ?_ | refine WC.condF rfl ?_
      try refine WL.wanted rfl rfl rfl ?_
      (apply WL.buildSlice; exact rfl; exact UndC.eq; exact SzC.eq; exact ZvC.eq; exact rfl; exact rfl; exact rfl; ((focus ((repeat (first | exact Flat.nil | (apply Flat.one; (first | exact rfl | assumption)) | (apply Flat.cons; exact rfl; exact rfl))); done))); exact rfl; exact rfl; intro k0)
      refine WL.toOwn (bl := k0) 0 2 .head rfl ?_
      repeat first
        | (apply WL.q; exact rfl; exact rfl; exact rfl; (first | (apply EvW.move; exact rfl)))
      try refine WL.wanted rfl rfl rfl ?_
      (apply WL.append; exact rfl; exact rfl; exact rfl; exact UndC.eq; exact SzC.eq; exact ByC.eq; exact ZvC.eq; exact rfl; (first | exact notInt_sl UndC.eq | exact notInt_st UndC.eq); exact rfl; (focus ((repeat constructor); done)))
      · exact (adds_row hv (all_flat (fun _ => rfl) _))
      · (simp; omega)
      intro v1
      refine WL.ownEq (cs' := ds.flatMap sigC) (len' := ds.length) .head (by simp) (by simp) ?_
      repeat first
        | (apply WL.q; exact rfl; exact rfl; exact rfl; (first | (apply EvW.assign; exact rfl)))
        | refine WL.nil ?_ | refine WE.next ?_ | refine WC.ret ?_
      refine WE.ret1 rfl rfl ?_
      exact rfl
  · repeat first
      | (apply WL.q; exact rfl; exact rfl; exact rfl; (first | (apply EvW.move; exact rfl) | (apply EvW.assign; exact rfl) | (apply EvW.eqNilF; exact rfl; exact rfl; exact UndC.eq)))
      | refine WC.seq ?_ | refine WC.region ?_ | refine WL.nil ?_ | refine WE.next ?_ | refine WC.skip ?_ | refine WC.condF rfl ?_
    try refine WL.wanted rfl rfl rfl ?_
    (apply WL.buildSlice; exact rfl; exact UndC.eq; exact SzC.eq; exact ZvC.eq; exact rfl; exact rfl; exact rfl; ((focus ((repeat (first | exact Flat.nil | (apply Flat.one; (first | exact rfl | assumption)) | (apply Flat.cons; exact rfl; exact rfl))); done))); exact rfl; exact rfl; intro k0)
    refine WL.toOwn (bl := k0) 0 2 .head rfl ?_
    repeat first
      | (apply WL.q; exact rfl; exact rfl; exact rfl; (first | (apply EvW.move; exact rfl)))
    try refine WL.wanted rfl rfl rfl ?_
    (apply WL.append; exact rfl; exact rfl; exact rfl; exact UndC.eq; exact SzC.eq; exact ByC.eq; exact ZvC.eq; exact rfl; (first | exact notInt_sl UndC.eq | exact notInt_st UndC.eq); exact rfl; (focus ((repeat constructor); done)))
    · exact (adds_row hv (all_flat (fun _ => rfl) _))
    · (simp; omega)
    intro v1
    refine WL.ownEq (cs' := ds.flatMap sigC) (len' := ds.length) .head (by simp) (by simp) ?_
    repeat first
      | (apply WL.q; exact rfl; exact rfl; exact rfl; (first | (apply EvW.assign; exact rfl)))
      | refine WL.nil ?_ | refine WE.next ?_ | refine WC.ret ?_
    refine WE.ret1 rfl rfl ?_
    exact rfl
theorem cloneI_spec (ds : List Int) (v : Value) (w : World) (S : BSet) (hS : (sepL []).sat S w) (hv : Sees w S (.row 1 v ds.length (ds.map i64))) (hn : ds.length ≤ 1048576) :
    Tri Try.prog 25 #[v] w S fun u A => A = [.own 3 1 u ds.length (ds.map i64)] := by
  refine Tri.enter (l := [v]) Try.func25 rfl Try.ntmps25 rfl [(0, v)] (subA rfl) hS ?_
  rcases id hv.row_shape with ⟨p, cap, rfl, h0, h1⟩ | ⟨b, off, cap, rfl, h1⟩
  · cases p with
    | none =>
      obtain rfl : ds = [] := List.length_eq_zero_iff.1 h0
      refine WC.ownNil 3 1 ?_
      repeat first
        | (apply WL.q; exact rfl; exact rfl; exact rfl; (first | (apply EvW.move; exact rfl) | (apply EvW.assign; exact rfl) | (apply EvW.eqNilT; exact rfl; exact rfl; exact UndC.eq)))
        | refine WC.seq ?_ | refine WC.region ?_ | refine WL.nil ?_ | refine WE.next ?_ | refine WC.condT rfl ?_ | refine WC.ret ?_ | refine WE.passRet ?_
      refine WE.ret1 rfl rfl ?_
      exact rfl
    | some p =>
      repeat first
        | (apply WL.q; exact rfl; exact rfl; exact rfl; (first | (apply EvW.move; exact rfl) | (apply EvW.assign; exact rfl) | (apply EvW.eqNilF; exact rfl; exact rfl; exact UndC.eq)))
        | refine WC.seq ?_ | refine WC.region ?_ | refine WL.nil ?_ | refine WE.next ?_ | refine WC.skip ?_ | refine WC.condF rfl ?_
      try refine WL.wanted rfl rfl rfl ?_
      (apply WL.buildSlice; exact rfl; exact UndC.eq; exact SzC.eq; exact ZvC.eq; exact rfl; exact rfl; exact rfl; ((focus ((repeat (first | exact Flat.nil | (apply Flat.one; (first | exact rfl | assumption)) | (apply Flat.cons; exact rfl; exact rfl))); done))); exact rfl; exact rfl; intro k0)
      refine WL.toOwn (bl := k0) 0 1 .head rfl ?_
      repeat first
        | (apply WL.q; exact rfl; exact rfl; exact rfl; (first | (apply EvW.move; exact rfl)))
      try refine WL.wanted rfl rfl rfl ?_
      (apply WL.append; exact rfl; exact rfl; exact rfl; exact UndC.eq; exact SzC.eq; exact ByC.eq; exact ZvC.eq; exact rfl; (first | exact notInt_sl UndC.eq | exact notInt_st UndC.eq); exact rfl; (focus ((repeat constructor); done)))
      · exact (adds_row hv (all_i64 _))
      · (simp; omega)
      intro v1
      refine WL.ownEq (cs' := ds.map i64) (len' := ds.length) .head (by simp) (by simp) ?_
      repeat first
        | (apply WL.q; exact rfl; exact rfl; exact rfl; (first | (apply EvW.assign; exact rfl)))
        | refine WL.nil ?_ | refine WE.next ?_ | refine WC.ret ?_
      refine WE.ret1 rfl rfl ?_
      exact rfl
  · repeat first
      | (apply WL.q; exact rfl; exact rfl; exact rfl; (first | (apply EvW.move; exact rfl) | (apply EvW.assign; exact rfl) | (apply EvW.eqNilF; exact rfl; exact rfl; exact UndC.eq)))
      | refine WC.seq ?_ | refine WC.region ?_ | refine WL.nil ?_ | refine WE.next ?_ | refine WC.skip ?_ | refine WC.condF rfl ?_
    try refine WL.wanted rfl rfl rfl ?_
    (apply WL.buildSlice; exact rfl; exact UndC.eq; exact SzC.eq; exact ZvC.eq; exact rfl; exact rfl; exact rfl; ((focus ((repeat (first | exact Flat.nil | (apply Flat.one; (first | exact rfl | assumption)) | (apply Flat.cons; exact rfl; exact rfl))); done))); exact rfl; exact rfl; intro k0)
    refine WL.toOwn (bl := k0) 0 1 .head rfl ?_
    repeat first
      | (apply WL.q; exact rfl; exact rfl; exact rfl; (first | (apply EvW.move; exact rfl)))
    try refine WL.wanted rfl rfl rfl ?_
    (apply WL.append; exact rfl; exact rfl; exact rfl; exact UndC.eq; exact SzC.eq; exact ByC.eq; exact ZvC.eq; exact rfl; (first | exact notInt_sl UndC.eq | exact notInt_st UndC.eq); exact rfl; (focus ((repeat constructor); done)))
    · exact (adds_row hv (all_i64 _))
    · (simp; omega)
    intro v1
    refine WL.ownEq (cs' := ds.map i64) (len' := ds.length) .head (by simp) (by simp) ?_
    repeat first
      | (apply WL.q; exact rfl; exact rfl; exact rfl; (first | (apply EvW.assign; exact rfl)))
      | refine WL.nil ?_ | refine WE.next ?_ | refine WC.ret ?_
    refine WE.ret1 rfl rfl ?_
    exact rfl
def voiceH (v : Voice) : HP := sepL [.blk (v).b #[ptr (v).r 0, (v).sh.a, (v).sh.b, (v).sh.y, (v).sh.d, (v).sd.a, (v).sd.b, (v).sd.y, (v).sd.d, i64 (v).stamp] 78, .blk v.r #[i64 (v.rc).last, i64 (v.rc).lost, i64 (v.rc).num, i64 (v.rc).peer, i64 (v.rc).age] 85, .own 3 1 ((v.sh).a) ((v.sh).la).length (((v.sh).la).map i64), .own 3 1 ((v.sh).b) ((v.sh).lb).length (((v.sh).lb).map i64), .own 3 1 ((v.sh).y) ((v.sh).ly).length (((v.sh).ly).map i64), .own 3 1 ((v.sh).d) ((v.sh).ld).length (((v.sh).ld).map i64), .own 3 1 ((v.sd).a) ((v.sd).la).length (((v.sd).la).map i64), .own 3 1 ((v.sd).b) ((v.sd).lb).length (((v.sd).lb).map i64), .own 3 1 ((v.sd).y) ((v.sd).ly).length (((v.sd).ly).map i64), .own 3 1 ((v.sd).d) ((v.sd).ld).length (((v.sd).ld).map i64)]
def imgH (x : Img) : HP := sepL [.blk (x).b #[(x).c.vS, (x).c.vJ, (x).c.vG, (x).c.vC, (x).c.vR, i64 (x).c.age, i64 (x).c.brake, i64 (x).c.hold, i64 (x).c.budget, (x).vv] 73, .own 47 3 (x.c).vS (x.c).secs.length ((x.c).secs.flatMap secC), .own 70 2 (x.c).vG (x.c).sigs.length ((x.c).sigs.flatMap sigC), .own 3 1 (x.c).vC (x.c).crs.length ((x.c).crs.map i64), .own 74 1 x.vv 4 (x.vs.map vPtr), sepL (x.vs.map voiceH)]
def nilQ : Q4 := ⟨.slice none 0 0, .slice none 0 0, .slice none 0 0, .slice none 0 0, [], [], [], []⟩
/-- Which elements a controller has, at these values. -/
def Cfg.shape (c : Cfg) (oc : Int) (v : Value) : Q4 := ⟨cA v 0, cA v 1, cA v 2, cA v 3, c.lS oc, c.lP oc, c.lC oc, c.lG oc⟩
def newV (c : Cfg) (k : Nat) (p : Value) : Voice := ⟨pB (cA p 0), pB (cA p 1), Rcv.new k c.age, c.shape k (cA p 2), nilQ, -1⟩
def ownC (c : Cfg) (s g r : Value) : Cfg := { c with vS := s, vJ := .slice none 0 0, vG := g, vC := r, vR := .slice none 0 0 }
def newI (c : Cfg) (p : Nat × Value) : Img := ⟨p.1, ownC c (cA p.2 0) (cA p.2 1) (cA p.2 2), cA p.2 3, ([0, 1, 2, 3] : List Nat).map fun k => newV c k (cA (cA p.2 4) k)⟩
def vsOf (c : Cfg) (ps : List Value) : List Voice := ps.mapIdx (newV c)
theorem vsOf_snoc (c : Cfg) (ps : List Value) (p : Value) : vsOf c (ps ++ [p]) = vsOf c ps ++ [newV c ps.length p] := by unfold vsOf; rw [List.mapIdx_append]; simp
theorem vsOf_four (c : Cfg) (ps : List Value) (h : ps.length = 4) : vsOf c ps = ([0, 1, 2, 3] : List Nat).map fun k => newV c k (cA (.agg ps.toArray) k) := by
  match ps, h with
  | [a, b, d, e], _ => rfl
theorem own_lS (g : Cfg) (s a r : Value) (oc : Int) : (ownC g s a r).lS oc = g.lS oc := rfl
theorem own_lP (g : Cfg) (s a r : Value) (oc : Int) : (ownC g s a r).lP oc = g.lP oc := rfl
theorem own_lC (g : Cfg) (s a r : Value) (oc : Int) : (ownC g s a r).lC oc = g.lC oc := rfl
theorem own_lG (g : Cfg) (s a r : Value) (oc : Int) : (ownC g s a r).lG oc = g.lG oc := rfl
theorem ownShape_spec (g : Cfg) (vs vg vr : Value) (oc : Int) (w : World) (S : BSet) (hS : (sepL []).sat S w) (h1 : Sees w S (.own 47 3 vs g.secs.length (g.secs.flatMap secC))) (h2 : Sees w S (.own 70 2 vg g.sigs.length (g.sigs.flatMap sigC))) (h3 : Sees w S (.own 3 1 vr g.crs.length (g.crs.map i64))) (n1 : g.secs.length ≤ 8796093022208) (n2 : g.sigs.length ≤ 8796093022208) (n3 : g.crs.length ≤ 17592186044416) :
    Tri Try.prog 28 #[.agg #[vs, (.slice none 0 0), vg, vr, (.slice none 0 0), i64 g.age, i64 g.brake, i64 g.hold, i64 g.budget], i64 oc] w S fun u A => ∃ a b d e, u = .agg #[a, b, d, e] ∧ A = [.own 3 1 (a) ((g.lS oc)).length (((g.lS oc)).map i64), .own 3 1 (b) ((g.lP oc)).length (((g.lP oc)).map i64), .own 3 1 (d) ((g.lC oc)).length (((g.lC oc)).map i64), .own 3 1 (e) ((g.lG oc)).length (((g.lG oc)).map i64)] := by
  have h := shape_spec (ownC g vs vg vr) oc w S hS ⟨h1.own, h2.own, h3.own, n1, n2, n3⟩
  rw [own_lS, own_lP, own_lC, own_lG] at h
  exact h
end Go.Proofs.Ytamofjpadnnppaa
namespace Go.Proofs.Ytamofjpadnnppaa
open Go.RowKit Go.BK
set_option maxHeartbeats 1000000 in
theorem newI_spec (g : Cfg) (w : World) (S : BSet) (hS : (sepL []).sat S w) (h : g.Seen w S) (hs : g.Small) :
    Tri Try.prog 8 #[.agg (cfgC g).toArray] w S fun u A => ∃ p : Nat × Value, u = ptr p.1 0 ∧ A = [imgH (newI g p)] := by
  refine Tri.enter (l := [.agg (cfgC g).toArray]) Try.func8 rfl Try.ntmps8 rfl [(0, .agg (cfgC g).toArray)] (subA rfl) hS ?_
  obtain ⟨hnS, hnG, hnC⟩ := hs
  have hsec := h.secs
  have hsig := h.sigs
  have hcrs := h.crs
  repeat first
    | refine WC.seq ?_ | refine WC.region ?_
  try refine WL.wanted rfl rfl rfl ?_
  (apply WL.box; exact rfl; exact rfl; exact rfl; intro q0)
  repeat first
    | (apply WL.q; exact rfl; exact rfl; exact rfl; (first | (apply EvW.assign; exact rfl)))
    | refine WC.seq ?_ | refine WL.nil ?_ | refine WE.next ?_
  repeat refine WC.seq ?_
  refine WC.keep (xs := [.blk q0 (cfgC g).toArray 30]) (by repeat constructor) ?_
  apply WC.par _ (fun c : Ch => [.blk q0 (cfgC g).toArray 30, .own 47 3 (c 2).2 g.secs.length (g.secs.flatMap secC), .own 3 1 (c 5).2 g.crs.length (g.crs.map i64), .own 70 2 (c 8).2 g.sigs.length (g.sigs.flatMap sigC), .blk (c 12).1 #[(.slice none 0 0), (.slice none 0 0), (.slice none 0 0), (.slice none 0 0), (.slice none 0 0), i64 0, i64 0, i64 0, i64 0] 30, .blk (c 12).1 (cfgC (ownC g (c 2).2 (c 8).2 (c 5).2)).toArray 30]) [none, some 2, some 5, some 8, some 12, some 13] [none, none, none, none, some 13, none] [(2, fun x => x.2), (5, fun x => x.2), (8, fun x => x.2), (12, fun x => ptr x.1 0)] Try.mixed
  · (focus ((repeat (first | exact Restr.nil | (apply Restr.keep; exact rfl; exact rfl) | (apply Restr.drop; exact rfl))); done))
  · intro c; exact (by repeat constructor)
  · exact rfl
  · decide +kernel
  · decide +kernel
  · intro c
    (apply Par.quiet _ [true, false, false, false, false, false]; exact rfl; decide +kernel; exact rfl; intro R; refine ⟨_, (by repeat constructor), ?_⟩;
         (first | (apply EvW.fieldAddr0; exact rfl; exact FldC.eq)))
    (apply Par.quiet _ [true, false, false, false, false, false]; exact rfl; decide +kernel; exact rfl; intro R; refine ⟨_, (by repeat constructor), ?_⟩;
         (first | (apply EvW.load; exact rfl; exact ScalC.eq; (focus ((repeat constructor); done)); exact rfl)))
    apply Par.new _ [false, false, false, false, false, false] [false, true, false, false, false, false] [true, false, false, false, false, false]
    · exact rfl
    · exact rfl
    · decide +kernel
    · intro R
      refine ⟨_, _, _, (by repeat constructor), (by repeat constructor), (fun x => (by repeat constructor)), ?_⟩
      apply NewW.call (fun x => [.own 47 3 (x.2) g.secs.length (g.secs.flatMap secC)])
      · exact rfl
      · exact fun w1 S1 hS1 hs1 ho1 => cloneS_spec g.secs g.vS w1 S1 hS1 (hs1 _ hsec) hnS
      · exact fun w => Try.call24 _ w
      · (focus ((repeat constructor); done))
      · rintro _ _ rfl; exact ⟨(0, _), rfl, rfl⟩
      · exact fun x _ h => TakeT.st (by (focus ((repeat (first | exact TakeT.tail | apply TakeT.cons | exact Take.head | apply Take.tail | apply TakeT.drop)); done))) h
    (apply Par.quiet _ [true, false, false, false, false, false]; exact rfl; decide +kernel; exact rfl; intro R; refine ⟨_, (by repeat constructor), ?_⟩;
         (first | (apply EvW.fieldAddr0; exact rfl; exact FldC.eq)))
    (apply Par.quiet _ [true, false, false, false, false, false]; exact rfl; decide +kernel; exact rfl; intro R; refine ⟨_, (by repeat constructor), ?_⟩;
         (first | (apply EvW.load; exact rfl; exact ScalC.eq; (focus ((repeat constructor); done)); exact rfl)))
    apply Par.new _ [false, false, false, false, false, false] [false, false, true, false, false, false] [true, true, false, false, false, false]
    · exact rfl
    · exact rfl
    · decide +kernel
    · intro R
      refine ⟨_, _, _, (by repeat constructor), (by repeat constructor), (fun x => (by repeat constructor)), ?_⟩
      apply NewW.call (fun x => [.own 3 1 (x.2) g.crs.length (g.crs.map i64)])
      · exact rfl
      · exact fun w1 S1 hS1 hs1 ho1 => cloneI_spec g.crs g.vC w1 S1 hS1 (hs1 _ hcrs) hnC
      · exact fun w => Try.call25 _ w
      · (focus ((repeat constructor); done))
      · rintro _ _ rfl; exact ⟨(0, _), rfl, rfl⟩
      · exact fun x _ h => TakeT.st (by (focus ((repeat (first | exact TakeT.tail | apply TakeT.cons | exact Take.head | apply Take.tail | apply TakeT.drop)); done))) h
    (apply Par.quiet _ [true, false, false, false, false, false]; exact rfl; decide +kernel; exact rfl; intro R; refine ⟨_, (by repeat constructor), ?_⟩;
         (first | (apply EvW.fieldAddr0; exact rfl; exact FldC.eq)))
    (apply Par.quiet _ [true, false, false, false, false, false]; exact rfl; decide +kernel; exact rfl; intro R; refine ⟨_, (by repeat constructor), ?_⟩;
         (first | (apply EvW.load; exact rfl; exact ScalC.eq; (focus ((repeat constructor); done)); exact rfl)))
    apply Par.new _ [false, false, false, false, false, false] [false, false, false, true, false, false] [true, true, true, false, false, false]
    · exact rfl
    · exact rfl
    · decide +kernel
    · intro R
      refine ⟨_, _, _, (by repeat constructor), (by repeat constructor), (fun x => (by repeat constructor)), ?_⟩
      apply NewW.call (fun x => [.own 70 2 (x.2) g.sigs.length (g.sigs.flatMap sigC)])
      · exact rfl
      · exact fun w1 S1 hS1 hs1 ho1 => cloneG_spec g.sigs g.vG w1 S1 hS1 (hs1 _ hsig) hnG
      · exact fun w => Try.call26 _ w
      · (focus ((repeat constructor); done))
      · rintro _ _ rfl; exact ⟨(0, _), rfl, rfl⟩
      · exact fun x _ h => TakeT.st (by (focus ((repeat (first | exact TakeT.tail | apply TakeT.cons | exact Take.head | apply Take.tail | apply TakeT.drop)); done))) h
    (apply Par.quiet _ [true, false, false, false, false, false]; exact rfl; decide +kernel; exact rfl; intro R; refine ⟨_, (by repeat constructor), ?_⟩;
         (first | (apply EvW.fieldAddr0; exact rfl; exact FldC.eq)))
    (apply Par.quiet _ [true, false, false, false, false, false]; exact rfl; decide +kernel; exact rfl; intro R; refine ⟨_, (by repeat constructor), ?_⟩;
         (first | (apply EvW.loadAgg; exact rfl; exact AggC.eq; exact SzC.eq; (focus ((repeat constructor); done)); (focus ((repeat (first | exact SubL.nil | apply SubL.cons | apply SubL.succ)); done)))))
    apply Par.quiet _ [true, true, true, true, false, false]
    · exact rfl
    · decide +kernel
    · exact rfl
    · intro R
      refine ⟨_, (by repeat constructor), ?_⟩
      (apply EvW.slOwn ((c 2).2); (focus ((repeat constructor); done)); intro h2 _; apply EvW.slOwn ((c 5).2); (focus ((repeat constructor); done)); intro h5 _; apply EvW.slOwn ((c 8).2); (focus ((repeat constructor); done)); intro h8 _; apply EvW.build; exact PlC.eq; exact ZvC.eq; exact rfl; exact rfl; (focus ((repeat (first | exact Fills.nil | (apply Fills.cons; exact rfl; (first | assumption | exact rfl); exact rfl) | exact SetMany.nil | apply SetMany.cons | apply SetMany.succ)); done)))
    (apply Par.new _ [false, false, false, false, false, false] [false, false, false, false, true, false] [true, false, false, false, false, false]; exact rfl; exact rfl; decide +kernel; intro R; refine ⟨_, _, _, (by repeat constructor), (by repeat constructor), (fun x => (by repeat constructor)), ?_⟩; (apply NewW.alloc; exact ZvC.eq; exact rfl; exact fun _ => rfl))
    apply Par.eff _ [false, false, false, false, true, false] [false, false, false, false, false, true] [true, true, true, true, false, false]
    · exact rfl
    · exact rfl
    · decide +kernel
    · intro R
      refine ⟨_, _, _, (by repeat constructor), (by repeat constructor), (by repeat constructor), ?_⟩
      (apply EffW.slOwn ((c 2).2); (focus ((repeat constructor); done)); intro _ h2; apply EffW.slOwn ((c 5).2); (focus ((repeat constructor); done)); intro _ h5; apply EffW.slOwn ((c 8).2); (focus ((repeat constructor); done)); intro _ h8; (apply EffW.store; exact rfl; exact rfl; exact rfl; exact SzC.eq; (simp [h2, h5, h8]; exact ⟨rfl, rfl, rfl, rfl, rfl⟩); (focus ((repeat constructor); done))))
    exact Par.nil
  · repeat (first | exact AllN.nil | (apply AllN.cons; (intro c x; (repeat (first | exact IndA.nil | (apply IndA.skip; decide +kernel) | apply IndA.same))))) 
  · repeat (first | exact AllN.nil | (apply AllN.cons; (intro c x; (repeat (first | exact IndT.nil | (apply IndT.skip; decide +kernel) | apply IndT.same))))) 
  · exact fun _ => rfl
  intro c
  refine ⟨_, (by repeat constructor), ?_⟩
  apply WE.writ
  · (focus ((repeat (first | exact Writ.nil | apply Writ.some | apply Writ.none)); done))
  generalize (c 12).1 = b12
  generalize (c 2).2 = vs
  generalize (c 8).2 = vg
  generalize (c 5).2 = vr
  repeat first
    | (apply WL.q; exact rfl; exact rfl; exact rfl; (first | (apply EvW.loadAgg; exact rfl; exact AggC.eq; exact SzC.eq; (focus ((repeat constructor); done)); (focus ((repeat (first | exact SubL.nil | apply SubL.cons | apply SubL.succ)); done))) | (apply EvW.build; exact PlC.eq; exact ZvC.eq; exact rfl; exact rfl; (focus ((repeat (first | exact Fills.nil | (apply Fills.cons; exact rfl; (first | assumption | exact rfl); exact rfl) | exact SetMany.nil | apply SetMany.cons | apply SetMany.succ)); done)))))
    | refine WC.seq ?_ | refine WC.region ?_ | refine WE.next ?_
  try refine WL.wanted rfl rfl rfl ?_
  (apply WL.box; exact rfl; exact rfl; exact rfl; intro mb)
  repeat first
    | (apply WL.q; exact rfl; exact rfl; exact rfl; (first | (apply EvW.move; exact rfl) | (apply EvW.assign; exact rfl)))
    | refine WC.seq ?_ | refine WC.region ?_ | refine WL.nil ?_ | refine WE.next ?_ | refine WC.block ?_
  refine WC.noneL ?_
  refine WC.ownNil 74 1 ?_
  refine WC.loopK (σ := Nat × Value × List Value) [1, 3, 4] (fun s => [(21, i64 s.1)]) (fun s => [.blk q0 (cfgC g).toArray 30, .blk b12 #[vs, (.slice none 0 0), vg, vr, (.slice none 0 0), i64 g.age, i64 g.brake, i64 g.hold, i64 g.budget] 30, .own 47 3 vs g.secs.length (g.secs.flatMap secC), .own 70 2 vg g.sigs.length (g.sigs.flatMap sigC), .own 3 1 vr g.crs.length (g.crs.map i64), .blk mb #[vs, (.slice none 0 0), vg, vr, (.slice none 0 0), i64 g.age, i64 g.brake, i64 g.hold, i64 g.budget, s.2.1] 73, .own 74 1 s.2.1 s.1 ((vsOf g s.2.2).map vPtr), sepL ((vsOf g s.2.2).map voiceH)]) (fun s => s.1 ≤ 4 ∧ s.2.2.length = s.1) (fun s => 4 - s.1) (0, .slice none 0 0, []) (by (focus ((repeat (first | exact Pick.nil | (apply Pick.cons; exact rfl))); done))) (by (focus ((repeat (first | exact trivial | (refine ⟨rfl, ?_⟩))); done))) (fun _ h => h.keep (by repeat constructor)) ⟨Nat.zero_le _, rfl⟩ (fun s hs => ?_)
  obtain ⟨i, vv, ps⟩ := s
  simp only [List.cons_append, List.nil_append] at hs ⊢
  obtain ⟨hi, hl⟩ := hs
  subst hl
  by_cases hlt : ((ps.length : Nat) : Int) < 4
  · repeat first
      | (apply WL.q; exact rfl; exact rfl; exact rfl; (first | (apply EvW.move; exact rfl) | (apply EvW.assign; exact rfl) | (apply EvW.cmpT; exact rfl; exact rfl; exact rfl; omega)))
      | refine WC.seq ?_ | refine WC.region ?_ | refine WL.nil ?_ | refine WE.next ?_ | refine WC.block ?_ | refine WC.skip ?_ | refine WC.condT rfl ?_
    refine WC.ownNil 3 1 ?_
    refine WC.ownNil 3 1 ?_
    refine WC.ownNil 3 1 ?_
    refine WC.ownNil 3 1 ?_
    repeat refine WC.seq ?_
    refine WC.keep (xs := [.blk q0 (cfgC g).toArray 30, .blk b12 #[vs, (.slice none 0 0), vg, vr, (.slice none 0 0), i64 g.age, i64 g.brake, i64 g.hold, i64 g.budget] 30, .own 47 3 vs g.secs.length (g.secs.flatMap secC), .own 70 2 vg g.sigs.length (g.sigs.flatMap sigC), .own 3 1 vr g.crs.length (g.crs.map i64), .blk mb #[vs, (.slice none 0 0), vg, vr, (.slice none 0 0), i64 g.age, i64 g.brake, i64 g.hold, i64 g.budget, vv] 73, .own 74 1 vv ps.length ((vsOf g ps).map vPtr), .own 3 1 (.slice none 0 0) 0 [], .own 3 1 (.slice none 0 0) 0 [], .own 3 1 (.slice none 0 0) 0 [], .own 3 1 (.slice none 0 0) 0 [], sepL ((vsOf g ps).map voiceH)]) (by repeat constructor) ?_
    apply WC.par _ (fun c : Ch => [.blk q0 (cfgC g).toArray 30, .blk b12 #[vs, (.slice none 0 0), vg, vr, (.slice none 0 0), i64 g.age, i64 g.brake, i64 g.hold, i64 g.budget] 30, .own 47 3 vs g.secs.length (g.secs.flatMap secC), .own 70 2 vg g.sigs.length (g.sigs.flatMap sigC), .own 3 1 vr g.crs.length (g.crs.map i64), .blk mb #[vs, (.slice none 0 0), vg, vr, (.slice none 0 0), i64 g.age, i64 g.brake, i64 g.hold, i64 g.budget, vv] 73, .blk mb #[vs, (.slice none 0 0), vg, vr, (.slice none 0 0), i64 g.age, i64 g.brake, i64 g.hold, i64 g.budget, (c 16).2] 73, .own 74 1 vv ps.length ((vsOf g ps).map vPtr), .blk (c 15).1 #[ptr (c 14).1 0] 74, .own 74 1 ((c 16).2) (ps.length + 1) ((vsOf g ps).map vPtr ++ [ptr (c 14).1 0]), .blk (c 9).1 #[i64 ((Rcv.new (ps.length : Int) g.age)).last, i64 ((Rcv.new (ps.length : Int) g.age)).lost, i64 ((Rcv.new (ps.length : Int) g.age)).num, i64 ((Rcv.new (ps.length : Int) g.age)).peer, i64 ((Rcv.new (ps.length : Int) g.age)).age] 85, .own 3 1 ((cA (c 12).2 0)) ((g.lS ps.length)).length (((g.lS ps.length)).map i64), .own 3 1 ((cA (c 12).2 1)) ((g.lP ps.length)).length (((g.lP ps.length)).map i64), .own 3 1 ((cA (c 12).2 2)) ((g.lC ps.length)).length (((g.lC ps.length)).map i64), .own 3 1 ((cA (c 12).2 3)) ((g.lG ps.length)).length (((g.lG ps.length)).map i64), .own 3 1 (.slice none 0 0) 0 [], .own 3 1 (.slice none 0 0) 0 [], .own 3 1 (.slice none 0 0) 0 [], .own 3 1 (.slice none 0 0) 0 [], .blk (c 14).1 #[ptr (c 9).1 0, cA (c 12).2 0, cA (c 12).2 1, cA (c 12).2 2, cA (c 12).2 3, (.slice none 0 0), (.slice none 0 0), (.slice none 0 0), (.slice none 0 0), i64 (-1)] 78, sepL ((vsOf g ps).map voiceH)]) [none, none, none, none, none, none, some 19, none, some 15, some 16, some 9, some 12, some 12, some 12, some 12, none, none, none, none, some 14, none] [none, none, none, none, none, some 19, none, some 16, some 16, none, none, none, none, none, none, none, none, none, none, none, none] [(9, fun x => ptr x.1 0), (12, fun x => .agg #[cA x.2 0, cA x.2 1, cA x.2 2, cA x.2 3]), (14, fun x => ptr x.1 0), (15, fun x => .slice (some ⟨x.1, 0, none⟩) 1 1), (16, fun x => x.2)] Try.mixed
    · (focus ((repeat (first | exact Restr.nil | (apply Restr.keep; exact rfl; exact rfl) | (apply Restr.drop; exact rfl))); done))
    · intro c; exact (by repeat constructor)
    · exact rfl
    · decide +kernel
    · decide +kernel
    · intro c
      (apply Par.quiet _ [true, true, true, true, true, true, false, false, false, false, false, false, false, false, false, true, true, true, true, false, true]; exact rfl; decide +kernel; exact rfl; intro R; refine ⟨_, (by repeat constructor), ?_⟩;
           (first | (apply EvW.move; exact rfl)))
      (apply Par.quiet _ [true, true, true, true, true, true, false, true, false, false, false, false, false, false, false, true, true, true, true, false, true]; exact rfl; decide +kernel; exact rfl; intro R; refine ⟨_, (by repeat constructor), ?_⟩;
           (first | (apply EvW.move; exact rfl)))
      (apply Par.quiet _ [true, true, true, true, true, true, false, true, false, false, false, false, false, false, false, true, true, true, true, false, true]; exact rfl; decide +kernel; exact rfl; intro R; refine ⟨_, (by repeat constructor), ?_⟩;
           (first | (apply EvW.nilPtr; exact rfl)))
      (apply Par.quiet _ [true, true, true, true, true, true, false, true, false, false, false, false, false, false, false, true, true, true, true, false, true]; exact rfl; decide +kernel; exact rfl; intro R; refine ⟨_, (by repeat constructor), ?_⟩;
           (first | (apply EvW.fieldAddr0; exact rfl; exact FldC.eq)))
      (apply Par.quiet _ [true, true, true, true, true, true, false, true, false, false, false, false, false, false, false, true, true, true, true, false, true]; exact rfl; decide +kernel; exact rfl; intro R; refine ⟨_, (by repeat constructor), ?_⟩;
           (first | (apply EvW.load; exact rfl; exact ScalC.eq; (focus ((repeat constructor); done)); exact rfl)))
      (apply Par.quiet _ [true, true, true, true, true, true, false, true, false, false, false, false, false, false, false, true, true, true, true, false, true]; exact rfl; decide +kernel; exact rfl; intro R; refine ⟨_, (by repeat constructor), ?_⟩;
           (first | (apply EvW.move; exact rfl)))
      (apply Par.quiet _ [true, true, true, true, true, true, false, true, false, false, false, false, false, false, false, true, true, true, true, false, true]; exact rfl; decide +kernel; exact rfl; intro R; refine ⟨_, (by repeat constructor), ?_⟩;
           (first | (apply EvW.fieldAddr0; exact rfl; exact FldC.eq)))
      (apply Par.quiet _ [true, true, true, true, true, true, false, true, false, false, false, false, false, false, false, true, true, true, true, false, true]; exact rfl; decide +kernel; exact rfl; intro R; refine ⟨_, (by repeat constructor), ?_⟩;
           (first | (apply EvW.fieldAddr; exact rfl; exact FldC.eq)))
      (apply Par.quiet _ [true, true, true, true, true, true, false, true, false, false, false, false, false, false, false, true, true, true, true, false, true]; exact rfl; decide +kernel; exact rfl; intro R; refine ⟨_, (by repeat constructor), ?_⟩;
           (first | (apply EvW.load; exact rfl; exact ScalC.eq; (focus ((repeat constructor); done)); exact rfl)))
      apply Par.new _ [false, false, false, false, false, false, false, false, false, false, false, false, false, false, false, false, false, false, false, false, false] [false, false, false, false, false, false, false, false, false, false, true, false, false, false, false, false, false, false, false, false, false] [true, true, true, true, true, true, false, true, false, false, false, false, false, false, false, true, true, true, true, false, true]
      · exact rfl
      · exact rfl
      · decide +kernel
      · intro R
        refine ⟨_, _, _, (by repeat constructor), (by repeat constructor), (fun x => (by repeat constructor)), ?_⟩
        apply NewW.call (fun x => [.blk x.1 #[i64 ((Rcv.new (ps.length : Int) g.age)).last, i64 ((Rcv.new (ps.length : Int) g.age)).lost, i64 ((Rcv.new (ps.length : Int) g.age)).num, i64 ((Rcv.new (ps.length : Int) g.age)).peer, i64 ((Rcv.new (ps.length : Int) g.age)).age] 85])
        · exact rfl
        · exact fun w1 S1 hS1 hs1 ho1 => newReceiver_spec (ps.length : Int) g.age w1 S1 hS1
        · exact fun w => Try.call27 _ w
        · (focus ((repeat constructor); done))
        · rintro _ _ ⟨b, rfl, rfl⟩; exact ⟨(b, .bool true), rfl, rfl⟩
        · exact fun x _ h => TakeT.st (by (focus ((repeat (first | exact TakeT.tail | apply TakeT.cons | exact Take.head | apply Take.tail | apply TakeT.drop)); done))) h
      (apply Par.quiet _ [true, true, true, true, true, true, false, true, false, false, false, false, false, false, false, true, true, true, true, false, true]; exact rfl; decide +kernel; exact rfl; intro R; refine ⟨_, (by repeat constructor), ?_⟩;
           (first | (apply EvW.loadAgg; exact rfl; exact AggC.eq; exact SzC.eq; (focus ((repeat constructor); done)); (focus ((repeat (first | exact SubL.nil | apply SubL.cons | apply SubL.succ)); done)))))
      (apply Par.quiet _ [true, true, true, true, true, true, false, true, false, false, false, false, false, false, false, true, true, true, true, false, true]; exact rfl; decide +kernel; exact rfl; intro R; refine ⟨_, (by repeat constructor), ?_⟩;
           (first | (apply EvW.move; exact rfl)))
      apply Par.new _ [false, false, false, false, false, false, false, false, false, false, false, false, false, false, false, false, false, false, false, false, false] [false, false, false, false, false, false, false, false, false, false, false, true, true, true, true, false, false, false, false, false, false] [true, true, true, true, true, true, false, true, false, false, true, false, false, false, false, true, true, true, true, false, true]
      · exact rfl
      · exact rfl
      · decide +kernel
      · intro R
        refine ⟨_, _, _, (by repeat constructor), (by repeat constructor), (fun x => (by repeat constructor)), ?_⟩
        apply NewW.callA ([]) (fun x => [.own 3 1 ((cA x.2 0)) ((g.lS ps.length)).length (((g.lS ps.length)).map i64), .own 3 1 ((cA x.2 1)) ((g.lP ps.length)).length (((g.lP ps.length)).map i64), .own 3 1 ((cA x.2 2)) ((g.lC ps.length)).length (((g.lC ps.length)).map i64), .own 3 1 ((cA x.2 3)) ((g.lG ps.length)).length (((g.lG ps.length)).map i64)])
        · exact rfl
        · exact fun w => Try.call28 _ w
        · (focus ((repeat constructor); done))
        · exact fun w1 S1 hS1 hs1 ho1 => ownShape_spec g vs vg vr (ps.length : Int) w1 S1 hS1 (ho1 (.own 47 3 vs g.secs.length (g.secs.flatMap secC)) _ (by repeat constructor)) (ho1 (.own 70 2 vg g.sigs.length (g.sigs.flatMap sigC)) _ (by repeat constructor)) (ho1 (.own 3 1 vr g.crs.length (g.crs.map i64)) _ (by repeat constructor)) h.nS h.nG h.nC
        · rintro _ _ ⟨x1, x2, x3, x4, rfl, rfl⟩; exact ⟨(0, .agg #[x1, x2, x3, x4]), rfl, rfl⟩
        · exact fun x _ h => TakeT.st (by (focus ((repeat (first | exact TakeT.tail | apply TakeT.cons | exact Take.head | apply Take.tail | apply TakeT.drop)); done))) h
      (apply Par.quiet _ [true, true, true, true, true, true, false, true, false, false, true, true, true, true, true, true, true, true, true, false, true]; exact rfl; decide +kernel; exact rfl; intro R; refine ⟨_, (by repeat constructor), ?_⟩;
           (first | (apply EvW.build; exact PlC.eq; exact ZvC.eq; exact rfl; exact rfl; (focus ((repeat (first | exact Fills.nil | (apply Fills.cons; exact rfl; (first | assumption | exact rfl); exact rfl) | exact SetMany.nil | apply SetMany.cons | apply SetMany.succ)); done)))))
      (apply Par.new _ [false, false, false, false, false, false, false, false, false, false, false, false, false, false, false, false, false, false, false, false, false] [false, false, false, false, false, false, false, false, false, false, false, false, false, false, false, false, false, false, false, true, false] [true, true, true, true, true, true, false, true, false, false, true, true, true, true, true, true, true, true, true, false, true]; exact rfl; exact rfl; decide +kernel; intro R; refine ⟨_, _, _, (by repeat constructor), (by repeat constructor), (fun x => (by repeat constructor)), ?_⟩; (apply NewW.box; exact rfl; exact rfl; exact fun _ => rfl))
      (apply Par.new _ [false, false, false, false, false, false, false, false, false, false, false, false, false, false, false, false, false, false, false, false, false] [false, false, false, false, false, false, false, false, true, false, false, false, false, false, false, false, false, false, false, false, false] [true, true, true, true, true, true, false, true, false, false, true, true, true, true, true, true, true, true, true, true, true]; exact rfl; exact rfl; decide +kernel; intro R; refine ⟨_, _, _, (by repeat constructor), (by repeat constructor), (fun x => (by repeat constructor)), ?_⟩; (apply NewW.buildSlice; exact UndC.eq; exact SzC.eq; exact ZvC.eq; exact rfl; exact rfl; exact rfl; (focus ((repeat (first | exact Flat.nil | (apply Flat.one; (first | exact rfl | assumption)) | (apply Flat.cons; exact rfl; exact rfl))); done)); exact rfl; exact rfl; exact fun _ => rfl))
      apply Par.new _ [false, false, false, false, false, false, false, true, true, false, false, false, false, false, false, false, false, false, false, false, false] [false, false, false, false, false, false, false, false, false, true, false, false, false, false, false, false, false, false, false, false, false] [true, true, true, true, true, true, false, false, false, false, true, true, true, true, true, true, true, true, true, true, true]
      · exact rfl
      · exact rfl
      · decide +kernel
      · intro R
        refine ⟨_, _, _, (by repeat constructor), (by repeat constructor), (fun x => (by repeat constructor)), ?_⟩
        (apply NewW.append; exact rfl; exact rfl; exact UndC.eq; exact SzC.eq; exact ByC.eq; exact ZvC.eq; exact rfl; (first | exact notInt_sl UndC.eq | exact notInt_st UndC.eq); exact rfl; (focus ((repeat constructor); done)))
        · exact adds_blk (by repeat constructor) rfl rfl
        · (omega)
        · exact fun _ _ h => TakeT.st (by (focus ((repeat (first | exact TakeT.tail | apply TakeT.cons | exact Take.head | apply Take.tail | apply TakeT.drop)); done))) h
      (apply Par.quiet _ [true, true, true, true, true, true, false, false, false, true, true, true, true, true, true, true, true, true, true, true, true]; exact rfl; decide +kernel; exact rfl; intro R; refine ⟨_, (by repeat constructor), ?_⟩;
           (first | (apply EvW.nilPtr; exact rfl)))
      (apply Par.quiet _ [true, true, true, true, true, true, false, false, false, true, true, true, true, true, true, true, true, true, true, true, true]; exact rfl; decide +kernel; exact rfl; intro R; refine ⟨_, (by repeat constructor), ?_⟩;
           (first | (apply EvW.fieldAddr0; exact rfl; exact FldC.eq)))
      apply Par.eff _ [false, false, false, false, false, true, false, false, false, false, false, false, false, false, false, false, false, false, false, false, false] [false, false, false, false, false, false, true, false, false, false, false, false, false, false, false, false, false, false, false, false, false] [true, true, true, true, true, false, false, false, false, true, true, true, true, true, true, true, true, true, true, true, true]
      · exact rfl
      · exact rfl
      · decide +kernel
      · intro R
        refine ⟨_, _, _, (by repeat constructor), (by repeat constructor), (by repeat constructor), ?_⟩
        (apply EffW.storeSl; exact rfl; exact rfl; (focus ((repeat constructor); done)); exact SzC.eq; (focus ((repeat constructor); done)))
      exact Par.nil
    · repeat (first | exact AllN.nil | (apply AllN.cons; (intro c x; (repeat (first | exact IndA.nil | (apply IndA.skip; decide +kernel) | apply IndA.same))))) 
    · repeat (first | exact AllN.nil | (apply AllN.cons; (intro c x; (repeat (first | exact IndT.nil | (apply IndT.skip; decide +kernel) | apply IndT.same))))) 
    · exact fun _ => rfl
    intro c
    refine ⟨_, (by repeat constructor), ?_⟩
    apply WE.writ
    · (focus ((repeat (first | exact Writ.nil | apply Writ.some | apply Writ.none)); done))
    generalize (c 9).1 = b9
    generalize (c 12).1 = b12
    generalize (c 14).1 = b14
    generalize (c 15).1 = b15
    generalize (c 12).2 = sv
    generalize (c 16).2 = vv2
    obtain ⟨p, hp⟩ : ∃ p, Value.agg #[ptr b14 0, ptr b9 0, sv] = p := ⟨_, rfl⟩
    have hpv : newV g ps.length (.agg #[ptr b14 0, ptr b9 0, sv]) = newV g ps.length p := by rw [hp]
    refine WE.pack (L := [.blk ((newV g ps.length (.agg #[ptr b14 0, ptr b9 0, sv]))).b #[ptr ((newV g ps.length (.agg #[ptr b14 0, ptr b9 0, sv]))).r 0, ((newV g ps.length (.agg #[ptr b14 0, ptr b9 0, sv]))).sh.a, ((newV g ps.length (.agg #[ptr b14 0, ptr b9 0, sv]))).sh.b, ((newV g ps.length (.agg #[ptr b14 0, ptr b9 0, sv]))).sh.y, ((newV g ps.length (.agg #[ptr b14 0, ptr b9 0, sv]))).sh.d, ((newV g ps.length (.agg #[ptr b14 0, ptr b9 0, sv]))).sd.a, ((newV g ps.length (.agg #[ptr b14 0, ptr b9 0, sv]))).sd.b, ((newV g ps.length (.agg #[ptr b14 0, ptr b9 0, sv]))).sd.y, ((newV g ps.length (.agg #[ptr b14 0, ptr b9 0, sv]))).sd.d, i64 ((newV g ps.length (.agg #[ptr b14 0, ptr b9 0, sv]))).stamp] 78, .blk b9 #[i64 ((Rcv.new (ps.length : Int) g.age)).last, i64 ((Rcv.new (ps.length : Int) g.age)).lost, i64 ((Rcv.new (ps.length : Int) g.age)).num, i64 ((Rcv.new (ps.length : Int) g.age)).peer, i64 ((Rcv.new (ps.length : Int) g.age)).age] 85, .own 3 1 ((cA sv 0)) ((g.lS ps.length)).length (((g.lS ps.length)).map i64), .own 3 1 ((cA sv 1)) ((g.lP ps.length)).length (((g.lP ps.length)).map i64), .own 3 1 ((cA sv 2)) ((g.lC ps.length)).length (((g.lC ps.length)).map i64), .own 3 1 ((cA sv 3)) ((g.lG ps.length)).length (((g.lG ps.length)).map i64), .own 3 1 (.slice none 0 0) 0 [], .own 3 1 (.slice none 0 0) 0 [], .own 3 1 (.slice none 0 0) 0 [], .own 3 1 (.slice none 0 0) 0 []]) (by repeat constructor) ?_
    refine WE.back (z := voiceH (newV g ps.length (.agg #[ptr b14 0, ptr b9 0, sv]))) (by repeat constructor) (take_map_last voiceH _ (vsOf g ps)) ?_
    rw [show (vsOf g ps).map vPtr ++ [ptr b14 0] = (vsOf g ps ++ [newV g ps.length (.agg #[ptr b14 0, ptr b9 0, sv])]).map vPtr from by rw [List.map_append]; rfl, hpv, ← vsOf_snoc]
    repeat first
      | (apply WL.q; exact rfl; exact rfl; exact rfl; (first | (apply EvW.move; exact rfl) | (apply EvW.arN; exact rfl; exact rfl; exact rfl; refine i64_in ?_ ?_ <;> omega)))
      | refine WC.region ?_ | refine WL.nil ?_ | refine WE.next ?_ | refine WE.out ?_
    exact WE.again (s := (ps.length, vv, ps)) ((ps.length + 1, vv2, ps ++ [p])) ⟨by simp only []; omega, by simp⟩ (by (focus ((repeat (first | exact trivial | (refine ⟨rfl, ?_⟩))); done))) (fun _ h => (by (try simp only []); exact h.keep (by repeat constructor))) (by (try simp only []); omega)
  · have hl4 : ps.length = 4 := by omega
    rw [vsOf_four g ps hl4, hl4]
    repeat first
      | (apply WL.q; exact rfl; exact rfl; exact rfl; (first | (apply EvW.move; exact rfl) | (apply EvW.assign; exact rfl) | (apply EvW.cmpF; exact rfl; exact rfl; exact rfl; omega)))
      | refine WC.seq ?_ | refine WC.region ?_ | refine WL.nil ?_ | refine WE.next ?_ | refine WC.exit ?_ | refine WE.pass ?_ | refine WE.hit ?_ | refine WC.condF rfl ?_ | refine WC.ret ?_
    refine WE.pack (L := [.blk mb #[vs, (.slice none 0 0), vg, vr, (.slice none 0 0), i64 g.age, i64 g.brake, i64 g.hold, i64 g.budget, vv] 73, .own 47 3 vs g.secs.length (g.secs.flatMap secC), .own 70 2 vg g.sigs.length (g.sigs.flatMap sigC), .own 3 1 vr g.crs.length (g.crs.map i64), .own 74 1 vv 4 ((([0, 1, 2, 3] : List Nat).map fun k => newV g k (cA (.agg ps.toArray) k)).map vPtr), sepL ((([0, 1, 2, 3] : List Nat).map fun k => newV g k (cA (.agg ps.toArray) k)).map voiceH)]) (by repeat constructor) ?_
    refine WE.keep (xs := [imgH (newI g (mb, .agg #[vs, vg, vr, vv, .agg ps.toArray]))]) (by repeat constructor) ?_
    refine WE.ret1 rfl rfl ?_
    exact ⟨(mb, .agg #[vs, vg, vr, vv, .agg ps.toArray]), rfl, rfl⟩
end Go.Proofs.Ytamofjpadnnppaa
namespace Go.Proofs.Ytamofjpadnnppaa
open Go.RowKit Go.BK
structure Q4.Few (q : Q4) : Prop where
  a : q.la.length ≤ 17592186044416
  b : q.lb.length ≤ 17592186044416
  y : q.ly.length ≤ 17592186044416
  d : q.ld.length ≤ 17592186044416
structure Voice.Few (v : Voice) : Prop where
  sh : v.sh.Few
  sd : v.sd.Few
theorem voice_seen {v : Voice} {w : World} {S : BSet} (h : Sees w S (voiceH v)) (hf : v.Few) : v.Seen w S :=
  ⟨h.part .head, h.part (.tail .head), ⟨(h.part (.tail (.tail .head))).own, (h.part (.tail (.tail (.tail .head)))).own, (h.part (.tail (.tail (.tail (.tail .head))))).own, (h.part (.tail (.tail (.tail (.tail (.tail .head)))))).own, hf.sh.a, hf.sh.b, hf.sh.y, hf.sh.d⟩,
    ⟨(h.part (.tail (.tail (.tail (.tail (.tail (.tail .head))))))).own, (h.part (.tail (.tail (.tail (.tail (.tail (.tail (.tail .head)))))))).own, (h.part (.tail (.tail (.tail (.tail (.tail (.tail (.tail (.tail .head))))))))).own, (h.part (.tail (.tail (.tail (.tail (.tail (.tail (.tail (.tail (.tail .head)))))))))).own, hf.sd.a, hf.sd.b, hf.sd.y, hf.sd.d⟩⟩
structure Img.Ok (x : Img) : Prop where
  len : x.vs.length = 4
  few : ∀ k, k < 4 → ((x.vs.getD k default)).Few
  small : x.c.Small
theorem img_seen {x : Img} {w : World} {S : BSet} (h : Sees w S (imgH x)) (hx : x.Ok) : x.Seen w S :=
  ⟨h.part .head, ⟨(h.part (.tail .head)).own, (h.part (.tail (.tail .head))).own, (h.part (.tail (.tail (.tail .head)))).own, Nat.le_trans hx.small.s (by decide), Nat.le_trans hx.small.g (by decide), Nat.le_trans hx.small.r (by decide)⟩, (h.part (.tail (.tail (.tail (.tail .head))))).own, hx.len, fun k hk => by
    have hv : Sees w S (sepL (x.vs.map voiceH)) := h.part (.tail (.tail (.tail (.tail (.tail .head)))))
    exact voice_seen (hv.part (take_at (take_map_at (by rw [hx.len]; exact hk)))) (hx.few k hk)⟩
abbrev Got := List Int × List Int × List Int × List Int
def Q4.of (sv : Value) (z : Got) : Q4 := ⟨cA sv 0, cA sv 1, cA sv 2, cA sv 3, z.1, z.2.1, z.2.2.1, z.2.2.2⟩
def Voice.got (v : Voice) (t : Rcv × List UInt8 × Int) (k : Int) (z : Got) (sv : Value) : Voice := if t.2.2 ≠ 0 then { v with rc := t.1 } else if k = 0 then { v with rc := t.1, sd := Q4.of sv z, stamp := t.1.last } else { v with rc := t.1 }
def tookE (oc : Int) (t : Rcv × List UInt8 × Int) (k : Int) : Int := if 0 ≤ oc ∧ oc < 4 then (if t.2.2 ≠ 0 then t.2.2 else k) else 20
def Img.took (x : Img) (oc : Int) (t : Rcv × List UInt8 × Int) (k : Int) (z : Got) (sv : Value) : Img := if 0 ≤ oc ∧ oc < 4 then { x with vs := x.vs.set oc.toNat (((x.vs.getD oc.toNat default)).got t k z sv) } else x
theorem ptr_set {x : Img} {i : Nat} {v : Voice} (h : i < x.vs.length) (hb : v.b = ((x.vs.getD i default)).b) : (x.vs.set i v).map vPtr = x.vs.map vPtr := by
  rw [List.map_set]
  apply List.ext_getElem?
  intro j
  rw [List.getElem?_set]
  split
  · rename_i e
    subst e
    rw [if_pos (by rw [List.length_map]; exact h), List.getElem?_map, getD_some (d := default) h]
    show some (ptr v.b 0) = some (ptr ((x.vs.getD i default)).b 0)
    rw [hb]
  · rfl
set_option maxHeartbeats 1000000 in
theorem takeI_spec (x : Img) (now oc : Int) (l : List UInt8) (y : Said) (e k : Int) (z : Got) (t : Rcv × List UInt8 × Int) (w : World) (S : BSet) (hS : (sepL [imgH x]).sat S w) (hx : x.Ok) (hl : l.length ≤ 140737488355328) (hw : now ≤ 9223372036854775807) (hr : readF l = (y, e)) (ht : takeF ((x.vs.getD oc.toNat default)).rc now (y, e) = t) (h0 : 0 ≤ ((x.vs.getD oc.toNat default)).rc.lost) (h1 : ((x.vs.getD oc.toNat default)).rc.lost ≤ 4611686018427387904) (hk : 0 ≤ oc ∧ oc < 4 → RS ((x.vs.getD oc.toNat default)).sh t.2.1 k z) (htl : t.2.1.length ≤ 140737488355328) :
    Tri Try.prog 9 #[ptr x.b 0, i64 now, i64 oc, str l] w S fun u A => ∃ sv : Value, u = i64 (tookE oc t k) ∧ A = [imgH (x.took oc t k z sv)] := by
  refine Tri.enter (l := [ptr x.b 0, i64 now, i64 oc, str l]) Try.func9 rfl Try.ntmps9 rfl [(0, ptr x.b 0), (1, i64 now), (2, i64 oc), (3, str l)] (subA rfl) hS ?_
  refine WC.unpack (L := [.blk (x).b #[(x).c.vS, (x).c.vJ, (x).c.vG, (x).c.vC, (x).c.vR, i64 (x).c.age, i64 (x).c.brake, i64 (x).c.hold, i64 (x).c.budget, (x).vv] 73, .own 47 3 ((x).c).vS ((x).c).secs.length (((x).c).secs.flatMap secC), .own 70 2 ((x).c).vG ((x).c).sigs.length (((x).c).sigs.flatMap sigC), .own 3 1 ((x).c).vC ((x).c).crs.length (((x).c).crs.map i64), .own 74 1 (x).vv 4 ((x).vs.map vPtr), sepL ((x).vs.map voiceH)]) (LR := [.blk (x).b #[(x).c.vS, (x).c.vJ, (x).c.vG, (x).c.vC, (x).c.vR, i64 (x).c.age, i64 (x).c.brake, i64 (x).c.hold, i64 (x).c.budget, (x).vv] 73, .own 47 3 ((x).c).vS ((x).c).secs.length (((x).c).secs.flatMap secC), .own 70 2 ((x).c).vG ((x).c).sigs.length (((x).c).sigs.flatMap sigC), .own 3 1 ((x).c).vC ((x).c).crs.length (((x).c).crs.map i64), .own 74 1 (x).vv 4 ((x).vs.map vPtr), sepL ((x).vs.map voiceH)]) .head rfl ?_
  by_cases g0 : 0 ≤ oc
  rotate_left
  · skip
    repeat first
      | (apply WL.q; exact rfl; exact rfl; exact rfl; (first | (apply EvW.move; exact rfl) | (apply EvW.assign; exact rfl) | (apply EvW.cmpT; exact rfl; exact rfl; exact rfl; omega) | (apply EvW.pickT; exact rfl; exact rfl)))
      | refine WC.seq ?_ | refine WC.region ?_ | refine WL.nil ?_ | refine WE.next ?_ | refine WC.condT rfl ?_ | refine WC.ret ?_ | refine WE.passRet ?_ | refine WL.unwanted rfl rfl rfl rfl ?_
    refine WE.pack (L := [.blk (x).b #[(x).c.vS, (x).c.vJ, (x).c.vG, (x).c.vC, (x).c.vR, i64 (x).c.age, i64 (x).c.brake, i64 (x).c.hold, i64 (x).c.budget, (x).vv] 73, .own 47 3 ((x).c).vS ((x).c).secs.length (((x).c).secs.flatMap secC), .own 70 2 ((x).c).vG ((x).c).sigs.length (((x).c).sigs.flatMap sigC), .own 3 1 ((x).c).vC ((x).c).crs.length (((x).c).crs.map i64), .own 74 1 (x).vv 4 ((x).vs.map vPtr), sepL ((x).vs.map voiceH)]) (by repeat constructor) ?_
    refine WE.keep (xs := [imgH x]) (by repeat constructor) ?_
    refine WE.ret1 rfl rfl ?_
    exact ⟨undef, by unfold tookE; rw [if_neg (fun h => g0 h.1)], by unfold Img.took; rw [if_neg (fun h => g0 h.1)]⟩
  by_cases g4 : oc < (4 : Nat)
  rotate_left
  · skip
    repeat first
      | (apply WL.q; exact rfl; exact rfl; exact rfl; (first | (apply EvW.move; exact rfl) | (apply EvW.assign; exact rfl) | (apply EvW.nilPtr; exact rfl) | (apply EvW.fieldAddr0; exact rfl; exact FldC.eq) | (apply EvW.load; exact rfl; exact ScalC.eq; (focus ((repeat constructor); done)); exact rfl) | (apply EvW.cmpT; exact rfl; exact rfl; exact rfl; omega) | (apply EvW.cmpF; exact rfl; exact rfl; exact rfl; omega) | (apply EvW.pickF; exact rfl; exact rfl) | (apply EvW.lenOwn; exact rfl; exact UndC.eq; (focus ((repeat constructor); done)))))
      | refine WC.seq ?_ | refine WC.region ?_ | refine WL.nil ?_ | refine WE.next ?_ | refine WC.condT rfl ?_ | refine WC.ret ?_ | refine WE.passRet ?_ | refine WL.wanted rfl rfl rfl ?_
    refine WE.pack (L := [.blk (x).b #[(x).c.vS, (x).c.vJ, (x).c.vG, (x).c.vC, (x).c.vR, i64 (x).c.age, i64 (x).c.brake, i64 (x).c.hold, i64 (x).c.budget, (x).vv] 73, .own 47 3 ((x).c).vS ((x).c).secs.length (((x).c).secs.flatMap secC), .own 70 2 ((x).c).vG ((x).c).sigs.length (((x).c).sigs.flatMap sigC), .own 3 1 ((x).c).vC ((x).c).crs.length (((x).c).crs.map i64), .own 74 1 (x).vv 4 ((x).vs.map vPtr), sepL ((x).vs.map voiceH)]) (by repeat constructor) ?_
    refine WE.keep (xs := [imgH x]) (by repeat constructor) ?_
    refine WE.ret1 rfl rfl ?_
    exact ⟨undef, by unfold tookE; rw [if_neg (fun h => g4 h.2)], by unfold Img.took; rw [if_neg (fun h => g4 h.2)]⟩
  replace hk := hk ⟨g0, g4⟩
  have hlt : oc.toNat < x.vs.length := by rw [hx.len]; omega
  have hat := Img.at (x := x) hlt
  have hout : (x.vs.map voiceH)[oc.toNat]? = some (voiceH ((x.vs.getD oc.toNat default))) := take_map_at hlt
  have hfew := hx.few oc.toNat (by omega)
  obtain ⟨v, hv⟩ : ∃ v, (x.vs.getD oc.toNat default) = v := ⟨_, rfl⟩
  rw [hv] at hat hout hfew ht h0 h1 hk
  repeat first
    | (apply WL.q; exact rfl; exact rfl; exact rfl; (first | (apply EvW.move; exact rfl) | (apply EvW.assign; exact rfl) | (apply EvW.nilPtr; exact rfl) | (apply EvW.fieldAddr0; exact rfl; exact FldC.eq) | (apply EvW.load; exact rfl; exact ScalC.eq; (focus ((repeat constructor); done)); exact rfl) | (apply EvW.cmpF; exact rfl; exact rfl; exact rfl; omega) | (apply EvW.pickF; exact rfl; exact rfl) | (apply EvW.lenOwn; exact rfl; exact UndC.eq; (focus ((repeat constructor); done))) | (apply EvW.idxOwn; exact rfl; exact rfl; exact UndC.eq; exact SzC.eq; (focus ((repeat constructor); done)); omega; omega)))
    | refine WC.seq ?_ | refine WC.region ?_ | refine WL.nil ?_ | refine WE.next ?_ | refine WC.skip ?_ | refine WC.condF rfl ?_ | refine WL.wanted rfl rfl rfl ?_
  try refine WL.wanted rfl rfl rfl ?_
  (apply WL.q; exact rfl; exact rfl; exact rfl; (apply EvW.ldOwn (i := oc.toNat) (off := 0) (q := ptr v.b 0); exact rfl; exact ScalC.eq; (focus ((repeat constructor); done)); exact hat))
  refine WL.out (by repeat constructor) (take_at hout) ?_
  refine WL.unpack (L := [.blk (v).b #[ptr (v).r 0, (v).sh.a, (v).sh.b, (v).sh.y, (v).sh.d, (v).sd.a, (v).sd.b, (v).sd.y, (v).sd.d, i64 (v).stamp] 78, .blk v.r #[i64 (v.rc).last, i64 (v.rc).lost, i64 (v.rc).num, i64 (v.rc).peer, i64 (v.rc).age] 85, .own 3 1 ((v.sh).a) ((v.sh).la).length (((v.sh).la).map i64), .own 3 1 ((v.sh).b) ((v.sh).lb).length (((v.sh).lb).map i64), .own 3 1 ((v.sh).y) ((v.sh).ly).length (((v.sh).ly).map i64), .own 3 1 ((v.sh).d) ((v.sh).ld).length (((v.sh).ld).map i64), .own 3 1 ((v.sd).a) ((v.sd).la).length (((v.sd).la).map i64), .own 3 1 ((v.sd).b) ((v.sd).lb).length (((v.sd).lb).map i64), .own 3 1 ((v.sd).y) ((v.sd).ly).length (((v.sd).ly).map i64), .own 3 1 ((v.sd).d) ((v.sd).ld).length (((v.sd).ld).map i64)]) (LR := [.blk (v).b #[ptr (v).r 0, (v).sh.a, (v).sh.b, (v).sh.y, (v).sh.d, (v).sd.a, (v).sd.b, (v).sd.y, (v).sd.d, i64 (v).stamp] 78, .blk v.r #[i64 (v.rc).last, i64 (v.rc).lost, i64 (v.rc).num, i64 (v.rc).peer, i64 (v.rc).age] 85, .own 3 1 ((v.sh).a) ((v.sh).la).length (((v.sh).la).map i64), .own 3 1 ((v.sh).b) ((v.sh).lb).length (((v.sh).lb).map i64), .own 3 1 ((v.sh).y) ((v.sh).ly).length (((v.sh).ly).map i64), .own 3 1 ((v.sh).d) ((v.sh).ld).length (((v.sh).ld).map i64), .own 3 1 ((v.sd).a) ((v.sd).la).length (((v.sd).la).map i64), .own 3 1 ((v.sd).b) ((v.sd).lb).length (((v.sd).lb).map i64), .own 3 1 ((v.sd).y) ((v.sd).ly).length (((v.sd).ly).map i64), .own 3 1 ((v.sd).d) ((v.sd).ld).length (((v.sd).ld).map i64), sepL (((x).vs.map voiceH).eraseIdx oc.toNat), .blk (x).b #[(x).c.vS, (x).c.vJ, (x).c.vG, (x).c.vC, (x).c.vR, i64 (x).c.age, i64 (x).c.brake, i64 (x).c.hold, i64 (x).c.budget, (x).vv] 73, .own 47 3 (x.c).vS (x.c).secs.length ((x.c).secs.flatMap secC), .own 70 2 (x.c).vG (x.c).sigs.length ((x.c).sigs.flatMap sigC), .own 3 1 (x.c).vC (x.c).crs.length ((x.c).crs.map i64), .own 74 1 (x).vv 4 ((x).vs.map vPtr)]) .head rfl ?_
  repeat first
    | (apply WL.q; exact rfl; exact rfl; exact rfl; (first | (apply EvW.move; exact rfl) | (apply EvW.assign; exact rfl) | (apply EvW.nilPtr; exact rfl) | (apply EvW.fieldAddr0; exact rfl; exact FldC.eq) | (apply EvW.load; exact rfl; exact ScalC.eq; (focus ((repeat constructor); done)); exact rfl)))
    | refine WC.seq ?_ | refine WC.region ?_ | refine WL.nil ?_ | refine WE.next ?_
  try refine WL.wanted rfl rfl rfl ?_
  apply WL.callA ([.blk v.r #[i64 (v.rc).last, i64 (v.rc).lost, i64 (v.rc).num, i64 (v.rc).peer, i64 (v.rc).age] 85])
  · exact rfl
  · exact rfl
  · exact fun w => Try.call29 _ w
  · (focus ((repeat constructor); done))
  · exact fun w1 S1 hS1 hs1 ho1 => ltake_spec v.r v.rc now l y e w1 S1 hS1 hl h0 h1 hw hr
  rintro _ _ ⟨rfl, rfl⟩
  first | refine WL.app4 ?_ | refine WL.app3 ?_ | refine WL.app2 ?_ | refine WL.app1 ?_ | refine WL.app0 ?_ | skip
  rw [ht]
  obtain ⟨rc, p, te⟩ := t
  dsimp only at hk htl ⊢
  by_cases hte : te = 0
  rotate_left
  · skip
    repeat first
      | (apply WL.q; exact rfl; exact rfl; exact rfl; (first | (apply EvW.move; exact rfl) | (apply EvW.assign; exact rfl) | (apply EvW.extract; exact rfl; exact rfl) | (apply EvW.cmpT; exact rfl; exact rfl; exact rfl; omega)))
      | refine WC.seq ?_ | refine WC.region ?_ | refine WL.nil ?_ | refine WE.next ?_ | refine WC.condT rfl ?_ | refine WC.ret ?_ | refine WE.passRet ?_
    refine WE.pack (L := [.blk ((Voice.mk v.b v.r rc v.sh v.sd v.stamp)).b #[ptr ((Voice.mk v.b v.r rc v.sh v.sd v.stamp)).r 0, ((Voice.mk v.b v.r rc v.sh v.sd v.stamp)).sh.a, ((Voice.mk v.b v.r rc v.sh v.sd v.stamp)).sh.b, ((Voice.mk v.b v.r rc v.sh v.sd v.stamp)).sh.y, ((Voice.mk v.b v.r rc v.sh v.sd v.stamp)).sh.d, ((Voice.mk v.b v.r rc v.sh v.sd v.stamp)).sd.a, ((Voice.mk v.b v.r rc v.sh v.sd v.stamp)).sd.b, ((Voice.mk v.b v.r rc v.sh v.sd v.stamp)).sd.y, ((Voice.mk v.b v.r rc v.sh v.sd v.stamp)).sd.d, i64 ((Voice.mk v.b v.r rc v.sh v.sd v.stamp)).stamp] 78, .blk v.r #[i64 (rc).last, i64 (rc).lost, i64 (rc).num, i64 (rc).peer, i64 (rc).age] 85, .own 3 1 ((v.sh).a) ((v.sh).la).length (((v.sh).la).map i64), .own 3 1 ((v.sh).b) ((v.sh).lb).length (((v.sh).lb).map i64), .own 3 1 ((v.sh).y) ((v.sh).ly).length (((v.sh).ly).map i64), .own 3 1 ((v.sh).d) ((v.sh).ld).length (((v.sh).ld).map i64), .own 3 1 ((v.sd).a) ((v.sd).la).length (((v.sd).la).map i64), .own 3 1 ((v.sd).b) ((v.sd).lb).length (((v.sd).lb).map i64), .own 3 1 ((v.sd).y) ((v.sd).ly).length (((v.sd).ly).map i64), .own 3 1 ((v.sd).d) ((v.sd).ld).length (((v.sd).ld).map i64)]) (by repeat constructor) ?_
    refine WE.back (L := (x.vs.set oc.toNat (Voice.mk v.b v.r rc v.sh v.sd v.stamp)).map voiceH) (z := voiceH (Voice.mk v.b v.r rc v.sh v.sd v.stamp)) (by repeat constructor) (take_map_set _ hlt) ?_
    have hps : (x.vs.set oc.toNat (Voice.mk v.b v.r rc v.sh v.sd v.stamp)).map vPtr = x.vs.map vPtr := ptr_set hlt (by rw [hv])
    rw [← hps]
    refine WE.pack (L := [.blk (x).b #[(x).c.vS, (x).c.vJ, (x).c.vG, (x).c.vC, (x).c.vR, i64 (x).c.age, i64 (x).c.brake, i64 (x).c.hold, i64 (x).c.budget, (x).vv] 73, .own 47 3 (x.c).vS (x.c).secs.length ((x.c).secs.flatMap secC), .own 70 2 (x.c).vG (x.c).sigs.length ((x.c).sigs.flatMap sigC), .own 3 1 (x.c).vC (x.c).crs.length ((x.c).crs.map i64), .own 74 1 x.vv 4 ((x.vs.set oc.toNat (Voice.mk v.b v.r rc v.sh v.sd v.stamp)).map vPtr), sepL ((x.vs.set oc.toNat (Voice.mk v.b v.r rc v.sh v.sd v.stamp)).map voiceH)]) (by repeat constructor) ?_
    refine WE.keep (xs := [imgH { x with vs := x.vs.set oc.toNat (Voice.mk v.b v.r rc v.sh v.sd v.stamp) }]) (by repeat constructor) ?_
    refine WE.ret1 rfl rfl ?_
    refine ⟨undef, ?_, ?_⟩
    · unfold tookE; rw [if_pos ⟨g0, g4⟩]; rw [if_pos hte]
    · unfold Img.took; rw [if_pos ⟨g0, g4⟩, hv]; unfold Voice.got; rw [if_pos hte]
  subst hte
  repeat first
    | (apply WL.q; exact rfl; exact rfl; exact rfl; (first | (apply EvW.move; exact rfl) | (apply EvW.assign; exact rfl) | (apply EvW.nilPtr; exact rfl) | (apply EvW.fieldAddr0; exact rfl; exact FldC.eq) | (apply EvW.extract; exact rfl; exact rfl) | (apply EvW.cmpF; exact rfl; exact rfl; exact rfl; omega) | (apply EvW.loadAgg; exact rfl; exact AggC.eq; exact SzC.eq; (focus ((repeat constructor); done)); (focus ((repeat (first | exact SubL.nil | apply SubL.cons | apply SubL.succ)); done)))))
    | refine WC.seq ?_ | refine WC.region ?_ | refine WL.nil ?_ | refine WE.next ?_ | refine WC.skip ?_ | refine WC.condF rfl ?_
  try refine WL.wanted rfl rfl rfl ?_
  apply WL.callA ([])
  · exact rfl
  · exact rfl
  · exact fun w => Try.call30 _ w
  · (focus ((repeat constructor); done))
  · exact fun w1 S1 hS1 hs1 ho1 => trs_spec v.sh p k z w1 S1 hS1 ⟨(ho1 (.own 3 1 (v.sh.a) (v.sh.la).length ((v.sh.la).map i64)) _ (by repeat constructor)).own, (ho1 (.own 3 1 (v.sh.b) (v.sh.lb).length ((v.sh.lb).map i64)) _ (by repeat constructor)).own, (ho1 (.own 3 1 (v.sh.y) (v.sh.ly).length ((v.sh.ly).map i64)) _ (by repeat constructor)).own, (ho1 (.own 3 1 (v.sh.d) (v.sh.ld).length ((v.sh.ld).map i64)) _ (by repeat constructor)).own, hfew.sh.a, hfew.sh.b, hfew.sh.y, hfew.sh.d⟩ htl hk
  rintro _ _ ⟨a, b, y2, d, rfl, rfl⟩
  first | refine WL.app4 ?_ | refine WL.app3 ?_ | refine WL.app2 ?_ | refine WL.app1 ?_ | refine WL.app0 ?_ | skip
  repeat first
    | (apply WL.q; exact rfl; exact rfl; exact rfl; (first | (apply EvW.move; exact rfl) | (apply EvW.extract; exact rfl; exact rfl)))
  try refine WL.wanted rfl rfl rfl ?_
  (apply WL.alloc; exact rfl; exact ZvC.eq; exact rfl; intro q)
  (first | refine WL.slOwn (v := a) (by repeat constructor) ?_ | refine WC.slOwn (v := a) (by repeat constructor) ?_)
  intro hc_a ho_a
  (first | refine WL.slOwn (v := b) (by repeat constructor) ?_ | refine WC.slOwn (v := b) (by repeat constructor) ?_)
  intro hc_b ho_b
  (first | refine WL.slOwn (v := y2) (by repeat constructor) ?_ | refine WC.slOwn (v := y2) (by repeat constructor) ?_)
  intro hc_y2 ho_y2
  (first | refine WL.slOwn (v := d) (by repeat constructor) ?_ | refine WC.slOwn (v := d) (by repeat constructor) ?_)
  intro hc_d ho_d
  have hall : ([a, b, y2, d] : List Value).all (·.oneCell') = true := by
    simp at ho_a ho_b ho_y2 ho_d
    simp [ho_a, ho_b, ho_y2, ho_d]
  clear hc_a hc_b hc_y2 hc_d ho_a ho_b ho_y2 ho_d
  by_cases hk0 : k = 0
  rotate_left
  · skip
    repeat first
      | (apply WL.q; exact rfl; exact rfl; exact rfl; (first | (apply EvW.move; exact rfl) | (apply EvW.assign; exact rfl) | (apply EvW.cmpF; exact rfl; exact rfl; exact rfl; omega)))
      | refine WC.seq ?_ | refine WC.region ?_ | refine WL.nil ?_ | refine WE.next ?_ | refine WC.skip ?_ | refine WC.condF rfl ?_ | refine WC.ret ?_ | (apply WL.store; exact rfl; exact rfl; (first | assumption | exact rfl); exact SzC.eq; (first | assumption | exact rfl); (focus ((repeat constructor); done)))
    refine WE.pack (L := [.blk ((Voice.mk v.b v.r rc v.sh v.sd v.stamp)).b #[ptr ((Voice.mk v.b v.r rc v.sh v.sd v.stamp)).r 0, ((Voice.mk v.b v.r rc v.sh v.sd v.stamp)).sh.a, ((Voice.mk v.b v.r rc v.sh v.sd v.stamp)).sh.b, ((Voice.mk v.b v.r rc v.sh v.sd v.stamp)).sh.y, ((Voice.mk v.b v.r rc v.sh v.sd v.stamp)).sh.d, ((Voice.mk v.b v.r rc v.sh v.sd v.stamp)).sd.a, ((Voice.mk v.b v.r rc v.sh v.sd v.stamp)).sd.b, ((Voice.mk v.b v.r rc v.sh v.sd v.stamp)).sd.y, ((Voice.mk v.b v.r rc v.sh v.sd v.stamp)).sd.d, i64 ((Voice.mk v.b v.r rc v.sh v.sd v.stamp)).stamp] 78, .blk v.r #[i64 (rc).last, i64 (rc).lost, i64 (rc).num, i64 (rc).peer, i64 (rc).age] 85, .own 3 1 ((v.sh).a) ((v.sh).la).length (((v.sh).la).map i64), .own 3 1 ((v.sh).b) ((v.sh).lb).length (((v.sh).lb).map i64), .own 3 1 ((v.sh).y) ((v.sh).ly).length (((v.sh).ly).map i64), .own 3 1 ((v.sh).d) ((v.sh).ld).length (((v.sh).ld).map i64), .own 3 1 ((v.sd).a) ((v.sd).la).length (((v.sd).la).map i64), .own 3 1 ((v.sd).b) ((v.sd).lb).length (((v.sd).lb).map i64), .own 3 1 ((v.sd).y) ((v.sd).ly).length (((v.sd).ly).map i64), .own 3 1 ((v.sd).d) ((v.sd).ld).length (((v.sd).ld).map i64)]) (by repeat constructor) ?_
    refine WE.back (L := (x.vs.set oc.toNat (Voice.mk v.b v.r rc v.sh v.sd v.stamp)).map voiceH) (z := voiceH (Voice.mk v.b v.r rc v.sh v.sd v.stamp)) (by repeat constructor) (take_map_set _ hlt) ?_
    have hps : (x.vs.set oc.toNat (Voice.mk v.b v.r rc v.sh v.sd v.stamp)).map vPtr = x.vs.map vPtr := ptr_set hlt (by rw [hv])
    rw [← hps]
    refine WE.pack (L := [.blk (x).b #[(x).c.vS, (x).c.vJ, (x).c.vG, (x).c.vC, (x).c.vR, i64 (x).c.age, i64 (x).c.brake, i64 (x).c.hold, i64 (x).c.budget, (x).vv] 73, .own 47 3 (x.c).vS (x.c).secs.length ((x.c).secs.flatMap secC), .own 70 2 (x.c).vG (x.c).sigs.length ((x.c).sigs.flatMap sigC), .own 3 1 (x.c).vC (x.c).crs.length ((x.c).crs.map i64), .own 74 1 x.vv 4 ((x.vs.set oc.toNat (Voice.mk v.b v.r rc v.sh v.sd v.stamp)).map vPtr), sepL ((x.vs.set oc.toNat (Voice.mk v.b v.r rc v.sh v.sd v.stamp)).map voiceH)]) (by repeat constructor) ?_
    refine WE.keep (xs := [imgH { x with vs := x.vs.set oc.toNat (Voice.mk v.b v.r rc v.sh v.sd v.stamp) }]) (by repeat constructor) ?_
    refine WE.ret1 rfl rfl ?_
    refine ⟨undef, ?_, ?_⟩
    · unfold tookE; rw [if_pos ⟨g0, g4⟩]; rw [if_neg (fun h => h rfl)]
    · unfold Img.took; rw [if_pos ⟨g0, g4⟩, hv]; unfold Voice.got; rw [if_neg (fun h => h rfl), if_neg hk0]
  subst hk0
  repeat first
    | (apply WL.q; exact rfl; exact rfl; exact rfl; (first | (apply EvW.move; exact rfl) | (apply EvW.assign; exact rfl) | (apply EvW.cmpT; exact rfl; exact rfl; exact rfl; omega)))
    | refine WC.seq ?_ | refine WC.region ?_ | refine WL.nil ?_ | refine WE.next ?_ | refine WC.condT rfl ?_ | (apply WL.store; exact rfl; exact rfl; (first | assumption | exact rfl); exact SzC.eq; (first | assumption | exact rfl); (focus ((repeat constructor); done)))
  repeat refine WC.seq ?_
  refine WC.keep (xs := [.blk (v).b #[ptr (v).r 0, (v).sh.a, (v).sh.b, (v).sh.y, (v).sh.d, (v).sd.a, (v).sd.b, (v).sd.y, (v).sd.d, i64 (v).stamp] 78, .blk v.r #[i64 (rc).last, i64 (rc).lost, i64 (rc).num, i64 (rc).peer, i64 (rc).age] 85, .own 3 1 ((v.sh).a) ((v.sh).la).length (((v.sh).la).map i64), .own 3 1 ((v.sh).b) ((v.sh).lb).length (((v.sh).lb).map i64), .own 3 1 ((v.sh).y) ((v.sh).ly).length (((v.sh).ly).map i64), .own 3 1 ((v.sh).d) ((v.sh).ld).length (((v.sh).ld).map i64), .blk q #[a, b, y2, d] 54, .own 3 1 (a) (z.1).length ((z.1).map i64), .own 3 1 (b) (z.2.1).length ((z.2.1).map i64), .own 3 1 (y2) (z.2.2.1).length ((z.2.2.1).map i64), .own 3 1 (d) (z.2.2.2).length ((z.2.2.2).map i64), .blk (x).b #[(x).c.vS, (x).c.vJ, (x).c.vG, (x).c.vC, (x).c.vR, i64 (x).c.age, i64 (x).c.brake, i64 (x).c.hold, i64 (x).c.budget, (x).vv] 73, .own 47 3 ((x).c).vS ((x).c).secs.length (((x).c).secs.flatMap secC), .own 70 2 ((x).c).vG ((x).c).sigs.length (((x).c).sigs.flatMap sigC), .own 3 1 ((x).c).vC ((x).c).crs.length (((x).c).crs.map i64), .own 74 1 (x).vv 4 ((x).vs.map vPtr), sepL (((x).vs.map voiceH).eraseIdx oc.toNat)]) (by repeat constructor) ?_
  apply WC.par _ (fun c : Ch => [.blk (v).b #[ptr (v).r 0, (v).sh.a, (v).sh.b, (v).sh.y, (v).sh.d, (v).sd.a, (v).sd.b, (v).sd.y, (v).sd.d, i64 (v).stamp] 78, .blk ((Voice.mk v.b v.r rc v.sh (Q4.mk a b y2 d z.1 z.2.1 z.2.2.1 z.2.2.2) v.stamp)).b #[ptr ((Voice.mk v.b v.r rc v.sh (Q4.mk a b y2 d z.1 z.2.1 z.2.2.1 z.2.2.2) v.stamp)).r 0, ((Voice.mk v.b v.r rc v.sh (Q4.mk a b y2 d z.1 z.2.1 z.2.2.1 z.2.2.2) v.stamp)).sh.a, ((Voice.mk v.b v.r rc v.sh (Q4.mk a b y2 d z.1 z.2.1 z.2.2.1 z.2.2.2) v.stamp)).sh.b, ((Voice.mk v.b v.r rc v.sh (Q4.mk a b y2 d z.1 z.2.1 z.2.2.1 z.2.2.2) v.stamp)).sh.y, ((Voice.mk v.b v.r rc v.sh (Q4.mk a b y2 d z.1 z.2.1 z.2.2.1 z.2.2.2) v.stamp)).sh.d, ((Voice.mk v.b v.r rc v.sh (Q4.mk a b y2 d z.1 z.2.1 z.2.2.1 z.2.2.2) v.stamp)).sd.a, ((Voice.mk v.b v.r rc v.sh (Q4.mk a b y2 d z.1 z.2.1 z.2.2.1 z.2.2.2) v.stamp)).sd.b, ((Voice.mk v.b v.r rc v.sh (Q4.mk a b y2 d z.1 z.2.1 z.2.2.1 z.2.2.2) v.stamp)).sd.y, ((Voice.mk v.b v.r rc v.sh (Q4.mk a b y2 d z.1 z.2.1 z.2.2.1 z.2.2.2) v.stamp)).sd.d, i64 ((Voice.mk v.b v.r rc v.sh (Q4.mk a b y2 d z.1 z.2.1 z.2.2.1 z.2.2.2) v.stamp)).stamp] 78, .blk ((Voice.mk v.b v.r rc v.sh (Q4.mk a b y2 d z.1 z.2.1 z.2.2.1 z.2.2.2) rc.last)).b #[ptr ((Voice.mk v.b v.r rc v.sh (Q4.mk a b y2 d z.1 z.2.1 z.2.2.1 z.2.2.2) rc.last)).r 0, ((Voice.mk v.b v.r rc v.sh (Q4.mk a b y2 d z.1 z.2.1 z.2.2.1 z.2.2.2) rc.last)).sh.a, ((Voice.mk v.b v.r rc v.sh (Q4.mk a b y2 d z.1 z.2.1 z.2.2.1 z.2.2.2) rc.last)).sh.b, ((Voice.mk v.b v.r rc v.sh (Q4.mk a b y2 d z.1 z.2.1 z.2.2.1 z.2.2.2) rc.last)).sh.y, ((Voice.mk v.b v.r rc v.sh (Q4.mk a b y2 d z.1 z.2.1 z.2.2.1 z.2.2.2) rc.last)).sh.d, ((Voice.mk v.b v.r rc v.sh (Q4.mk a b y2 d z.1 z.2.1 z.2.2.1 z.2.2.2) rc.last)).sd.a, ((Voice.mk v.b v.r rc v.sh (Q4.mk a b y2 d z.1 z.2.1 z.2.2.1 z.2.2.2) rc.last)).sd.b, ((Voice.mk v.b v.r rc v.sh (Q4.mk a b y2 d z.1 z.2.1 z.2.2.1 z.2.2.2) rc.last)).sd.y, ((Voice.mk v.b v.r rc v.sh (Q4.mk a b y2 d z.1 z.2.1 z.2.2.1 z.2.2.2) rc.last)).sd.d, i64 ((Voice.mk v.b v.r rc v.sh (Q4.mk a b y2 d z.1 z.2.1 z.2.2.1 z.2.2.2) rc.last)).stamp] 78, .blk v.r #[i64 (rc).last, i64 (rc).lost, i64 (rc).num, i64 (rc).peer, i64 (rc).age] 85, .blk v.r #[i64 (rc).last, i64 (rc).lost, i64 (rc).num, i64 (rc).peer, i64 (rc).age] 85, .own 3 1 ((v.sh).a) ((v.sh).la).length (((v.sh).la).map i64), .own 3 1 ((v.sh).b) ((v.sh).lb).length (((v.sh).lb).map i64), .own 3 1 ((v.sh).y) ((v.sh).ly).length (((v.sh).ly).map i64), .own 3 1 ((v.sh).d) ((v.sh).ld).length (((v.sh).ld).map i64), .blk q #[a, b, y2, d] 54, .own 3 1 (a) (z.1).length ((z.1).map i64), .own 3 1 (b) (z.2.1).length ((z.2.1).map i64), .own 3 1 (y2) (z.2.2.1).length ((z.2.2.1).map i64), .own 3 1 (d) (z.2.2.2).length ((z.2.2.2).map i64), .blk (x).b #[(x).c.vS, (x).c.vJ, (x).c.vG, (x).c.vC, (x).c.vR, i64 (x).c.age, i64 (x).c.brake, i64 (x).c.hold, i64 (x).c.budget, (x).vv] 73, .own 47 3 ((x).c).vS ((x).c).secs.length (((x).c).secs.flatMap secC), .own 70 2 ((x).c).vG ((x).c).sigs.length (((x).c).sigs.flatMap sigC), .own 3 1 ((x).c).vC ((x).c).crs.length (((x).c).crs.map i64), .own 74 1 (x).vv 4 ((x).vs.map vPtr), sepL (((x).vs.map voiceH).eraseIdx oc.toNat)]) [none, some 12, some 15, none, some 9, none, none, none, none, none, none, none, none, none, none, none, none, none, none, none] [some 12, some 15, none, some 9, none, none, none, none, none, none, none, none, none, none, none, none, none, none, none, none] [] Try.mixed
  · (focus ((repeat (first | exact Restr.nil | (apply Restr.keep; exact rfl; exact rfl) | (apply Restr.drop; exact rfl))); done))
  · intro c; exact (by repeat constructor)
  · exact rfl
  · decide +kernel
  · decide +kernel
  · intro c
    (apply Par.quiet _ [true, false, false, false, false, true, true, true, true, true, true, true, true, true, true, true, true, true, true, true]; exact rfl; decide +kernel; exact rfl; intro R; refine ⟨_, (by repeat constructor), ?_⟩;
         (first | (apply EvW.move; exact rfl)))
    (apply Par.quiet _ [false, false, false, false, false, true, true, true, true, true, true, true, true, true, true, true, true, true, true, true]; exact rfl; decide +kernel; exact rfl; intro R; refine ⟨_, (by repeat constructor), ?_⟩;
         (first | (apply EvW.move; exact rfl)))
    (apply Par.quiet _ [true, false, false, false, false, true, true, true, true, true, true, true, true, true, true, true, true, true, true, true]; exact rfl; decide +kernel; exact rfl; intro R; refine ⟨_, (by repeat constructor), ?_⟩;
         (first | (apply EvW.loadAgg; exact rfl; exact AggC.eq; exact SzC.eq; (focus ((repeat constructor); done)); (focus ((repeat (first | exact SubL.nil | apply SubL.cons | apply SubL.succ)); done)))))
    (apply Par.quiet _ [true, false, false, true, false, true, true, true, true, true, true, true, true, true, true, true, true, true, true, true]; exact rfl; decide +kernel; exact rfl; intro R; refine ⟨_, (by repeat constructor), ?_⟩;
         (first | (apply EvW.move; exact rfl)))
    (apply Par.quiet _ [true, false, false, true, false, true, true, true, true, true, true, true, true, true, true, true, true, true, true, true]; exact rfl; decide +kernel; exact rfl; intro R; refine ⟨_, (by repeat constructor), ?_⟩;
         (first | (apply EvW.nilPtr; exact rfl)))
    (apply Par.quiet _ [true, false, false, true, false, true, true, true, true, true, true, true, true, true, true, true, true, true, true, true]; exact rfl; decide +kernel; exact rfl; intro R; refine ⟨_, (by repeat constructor), ?_⟩;
         (first | (apply EvW.fieldAddr0; exact rfl; exact FldC.eq)))
    (apply Par.quiet _ [true, false, false, true, false, true, true, true, true, true, true, true, true, true, true, true, true, true, true, true]; exact rfl; decide +kernel; exact rfl; intro R; refine ⟨_, (by repeat constructor), ?_⟩;
         (first | (apply EvW.load; exact rfl; exact ScalC.eq; (focus ((repeat constructor); done)); exact rfl)))
    (apply Par.quiet _ [true, false, false, true, false, true, true, true, true, true, true, true, true, true, true, true, true, true, true, true]; exact rfl; decide +kernel; exact rfl; intro R; refine ⟨_, (by repeat constructor), ?_⟩;
         (first | (apply EvW.nilPtr; exact rfl)))
    (apply Par.quiet _ [true, false, false, true, false, true, true, true, true, true, true, true, true, true, true, true, true, true, true, true]; exact rfl; decide +kernel; exact rfl; intro R; refine ⟨_, (by repeat constructor), ?_⟩;
         (first | (apply EvW.fieldAddr0; exact rfl; exact FldC.eq)))
    apply Par.eff _ [false, false, false, true, false, false, false, false, false, false, false, false, false, false, false, false, false, false, false, false] [false, false, false, false, true, false, false, false, false, false, false, false, false, false, false, false, false, false, false, false] [true, false, false, false, false, true, true, true, true, true, true, true, true, true, true, true, true, true, true, true]
    · exact rfl
    · exact rfl
    · decide +kernel
    · intro R
      refine ⟨_, _, _, (by repeat constructor), (by repeat constructor), (by repeat constructor), ?_⟩
      apply EffW.callT
      · exact rfl
      · exact fun w1 S1 hS1 hs1 ho1 => last_spec v.r rc w1 S1 hS1
      · exact fun w => Try.call31 _ w
      · (focus ((repeat constructor); done))
      · exact fun _ _ h => h
      · exact fun _ h => TakeT.st (by (focus ((repeat (first | exact TakeT.tail | apply TakeT.cons | exact Take.head | apply Take.tail | apply TakeT.drop)); done))) h
    (apply Par.quiet _ [true, false, false, false, true, true, true, true, true, true, true, true, true, true, true, true, true, true, true, true]; exact rfl; decide +kernel; exact rfl; intro R; refine ⟨_, (by repeat constructor), ?_⟩;
         (first | (apply EvW.nilPtr; exact rfl)))
    (apply Par.quiet _ [true, false, false, false, true, true, true, true, true, true, true, true, true, true, true, true, true, true, true, true]; exact rfl; decide +kernel; exact rfl; intro R; refine ⟨_, (by repeat constructor), ?_⟩;
         (first | (apply EvW.fieldAddr0; exact rfl; exact FldC.eq)))
    (apply Par.eff _ [true, false, false, false, false, false, false, false, false, false, false, false, false, false, false, false, false, false, false, false] [false, true, false, false, false, false, false, false, false, false, false, false, false, false, false, false, false, false, false, false] [false, false, false, false, true, true, true, true, true, true, true, true, true, true, true, true, true, true, true, true]; exact rfl; exact rfl; decide +kernel; intro R; refine ⟨_, _, _, (by repeat constructor), (by repeat constructor), (by repeat constructor), ?_⟩; (apply EffW.store; exact rfl; exact rfl; (first | assumption | exact rfl); exact SzC.eq; (first | assumption | exact rfl); (focus ((repeat constructor); done))))
    (apply Par.quiet _ [false, true, false, false, true, true, true, true, true, true, true, true, true, true, true, true, true, true, true, true]; exact rfl; decide +kernel; exact rfl; intro R; refine ⟨_, (by repeat constructor), ?_⟩;
         (first | (apply EvW.nilPtr; exact rfl)))
    (apply Par.quiet _ [false, true, false, false, true, true, true, true, true, true, true, true, true, true, true, true, true, true, true, true]; exact rfl; decide +kernel; exact rfl; intro R; refine ⟨_, (by repeat constructor), ?_⟩;
         (first | (apply EvW.fieldAddr0; exact rfl; exact FldC.eq)))
    (apply Par.eff _ [false, true, false, false, false, false, false, false, false, false, false, false, false, false, false, false, false, false, false, false] [false, false, true, false, false, false, false, false, false, false, false, false, false, false, false, false, false, false, false, false] [false, false, false, false, true, true, true, true, true, true, true, true, true, true, true, true, true, true, true, true]; exact rfl; exact rfl; decide +kernel; intro R; refine ⟨_, _, _, (by repeat constructor), (by repeat constructor), (by repeat constructor), ?_⟩; (apply EffW.store; exact rfl; exact rfl; (first | assumption | exact rfl); exact SzC.eq; (first | assumption | exact rfl); (focus ((repeat constructor); done))))
    exact Par.nil
  · repeat (first | exact AllN.nil | (apply AllN.cons; (intro c x; (repeat (first | exact IndA.nil | (apply IndA.skip; decide +kernel) | apply IndA.same))))) 
  · repeat (first | exact AllN.nil | (apply AllN.cons; (intro c x; (repeat (first | exact IndT.nil | (apply IndT.skip; decide +kernel) | apply IndT.same))))) 
  · exact fun _ => rfl
  intro c
  refine ⟨_, (by repeat constructor), ?_⟩
  apply WE.writ
  · (focus ((repeat (first | exact Writ.nil | apply Writ.some | apply Writ.none)); done))
  repeat first
    | (apply WL.q; exact rfl; exact rfl; exact rfl; (first | (apply EvW.move; exact rfl) | (apply EvW.assign; exact rfl)))
    | refine WC.seq ?_ | refine WC.region ?_ | refine WL.nil ?_ | refine WE.next ?_ | refine WC.ret ?_
  refine WE.pack (L := [.blk ((Voice.mk v.b v.r rc v.sh (Q4.mk a b y2 d z.1 z.2.1 z.2.2.1 z.2.2.2) rc.last)).b #[ptr ((Voice.mk v.b v.r rc v.sh (Q4.mk a b y2 d z.1 z.2.1 z.2.2.1 z.2.2.2) rc.last)).r 0, ((Voice.mk v.b v.r rc v.sh (Q4.mk a b y2 d z.1 z.2.1 z.2.2.1 z.2.2.2) rc.last)).sh.a, ((Voice.mk v.b v.r rc v.sh (Q4.mk a b y2 d z.1 z.2.1 z.2.2.1 z.2.2.2) rc.last)).sh.b, ((Voice.mk v.b v.r rc v.sh (Q4.mk a b y2 d z.1 z.2.1 z.2.2.1 z.2.2.2) rc.last)).sh.y, ((Voice.mk v.b v.r rc v.sh (Q4.mk a b y2 d z.1 z.2.1 z.2.2.1 z.2.2.2) rc.last)).sh.d, ((Voice.mk v.b v.r rc v.sh (Q4.mk a b y2 d z.1 z.2.1 z.2.2.1 z.2.2.2) rc.last)).sd.a, ((Voice.mk v.b v.r rc v.sh (Q4.mk a b y2 d z.1 z.2.1 z.2.2.1 z.2.2.2) rc.last)).sd.b, ((Voice.mk v.b v.r rc v.sh (Q4.mk a b y2 d z.1 z.2.1 z.2.2.1 z.2.2.2) rc.last)).sd.y, ((Voice.mk v.b v.r rc v.sh (Q4.mk a b y2 d z.1 z.2.1 z.2.2.1 z.2.2.2) rc.last)).sd.d, i64 ((Voice.mk v.b v.r rc v.sh (Q4.mk a b y2 d z.1 z.2.1 z.2.2.1 z.2.2.2) rc.last)).stamp] 78, .blk v.r #[i64 (rc).last, i64 (rc).lost, i64 (rc).num, i64 (rc).peer, i64 (rc).age] 85, .own 3 1 ((v.sh).a) ((v.sh).la).length (((v.sh).la).map i64), .own 3 1 ((v.sh).b) ((v.sh).lb).length (((v.sh).lb).map i64), .own 3 1 ((v.sh).y) ((v.sh).ly).length (((v.sh).ly).map i64), .own 3 1 ((v.sh).d) ((v.sh).ld).length (((v.sh).ld).map i64), .own 3 1 (((Q4.mk a b y2 d z.1 z.2.1 z.2.2.1 z.2.2.2)).a) (((Q4.mk a b y2 d z.1 z.2.1 z.2.2.1 z.2.2.2)).la).length ((((Q4.mk a b y2 d z.1 z.2.1 z.2.2.1 z.2.2.2)).la).map i64), .own 3 1 (((Q4.mk a b y2 d z.1 z.2.1 z.2.2.1 z.2.2.2)).b) (((Q4.mk a b y2 d z.1 z.2.1 z.2.2.1 z.2.2.2)).lb).length ((((Q4.mk a b y2 d z.1 z.2.1 z.2.2.1 z.2.2.2)).lb).map i64), .own 3 1 (((Q4.mk a b y2 d z.1 z.2.1 z.2.2.1 z.2.2.2)).y) (((Q4.mk a b y2 d z.1 z.2.1 z.2.2.1 z.2.2.2)).ly).length ((((Q4.mk a b y2 d z.1 z.2.1 z.2.2.1 z.2.2.2)).ly).map i64), .own 3 1 (((Q4.mk a b y2 d z.1 z.2.1 z.2.2.1 z.2.2.2)).d) (((Q4.mk a b y2 d z.1 z.2.1 z.2.2.1 z.2.2.2)).ld).length ((((Q4.mk a b y2 d z.1 z.2.1 z.2.2.1 z.2.2.2)).ld).map i64)]) (by repeat constructor) ?_
  refine WE.back (L := (x.vs.set oc.toNat (Voice.mk v.b v.r rc v.sh (Q4.mk a b y2 d z.1 z.2.1 z.2.2.1 z.2.2.2) rc.last)).map voiceH) (z := voiceH (Voice.mk v.b v.r rc v.sh (Q4.mk a b y2 d z.1 z.2.1 z.2.2.1 z.2.2.2) rc.last)) (by repeat constructor) (take_map_set _ hlt) ?_
  have hps : (x.vs.set oc.toNat (Voice.mk v.b v.r rc v.sh (Q4.mk a b y2 d z.1 z.2.1 z.2.2.1 z.2.2.2) rc.last)).map vPtr = x.vs.map vPtr := ptr_set hlt (by rw [hv])
  rw [← hps]
  refine WE.pack (L := [.blk (x).b #[(x).c.vS, (x).c.vJ, (x).c.vG, (x).c.vC, (x).c.vR, i64 (x).c.age, i64 (x).c.brake, i64 (x).c.hold, i64 (x).c.budget, (x).vv] 73, .own 47 3 (x.c).vS (x.c).secs.length ((x.c).secs.flatMap secC), .own 70 2 (x.c).vG (x.c).sigs.length ((x.c).sigs.flatMap sigC), .own 3 1 (x.c).vC (x.c).crs.length ((x.c).crs.map i64), .own 74 1 x.vv 4 ((x.vs.set oc.toNat (Voice.mk v.b v.r rc v.sh (Q4.mk a b y2 d z.1 z.2.1 z.2.2.1 z.2.2.2) rc.last)).map vPtr), sepL ((x.vs.set oc.toNat (Voice.mk v.b v.r rc v.sh (Q4.mk a b y2 d z.1 z.2.1 z.2.2.1 z.2.2.2) rc.last)).map voiceH)]) (by repeat constructor) ?_
  refine WE.keep (xs := [imgH { x with vs := x.vs.set oc.toNat (Voice.mk v.b v.r rc v.sh (Q4.mk a b y2 d z.1 z.2.1 z.2.2.1 z.2.2.2) rc.last) }]) (by repeat constructor) ?_
  refine WE.ret1 rfl rfl ?_
  refine ⟨.agg #[a, b, y2, d], ?_, ?_⟩
  · unfold tookE; rw [if_pos ⟨g0, g4⟩]; rw [if_neg (fun h => h rfl)]
  · unfold Img.took; rw [if_pos ⟨g0, g4⟩, hv]; unfold Voice.got; rw [if_neg (fun h => h rfl), if_pos rfl]; rfl
end Go.Proofs.Ytamofjpadnnppaa
namespace Go.Proofs.Ytamofjpadnnppaa
open Go.RowKit Go.BK
def Img.lost (x : Img) (i : Nat) : Int := ((x.vs.take i).map fun v => v.rc.lost).sum
theorem lostI_step (x : Img) (i : Nat) (h : i < x.vs.length) : x.lost (i + 1) = x.lost i + (x.vs.getD i default).rc.lost := by
  unfold Img.lost
  rw [List.take_add_one, getD_some (d := default) h, List.map_append, List.sum_append]; simp
theorem lostI_bd (x : Img) (M : Int) (hM : 0 ≤ M) (hb : ∀ k, k < x.vs.length → 0 ≤ (x.vs.getD k default).rc.lost ∧ (x.vs.getD k default).rc.lost ≤ M) : ∀ i : Nat, i ≤ x.vs.length → 0 ≤ x.lost i ∧ x.lost i ≤ i * M
  | 0, _ => by simp [Img.lost]
  | i + 1, h => by
    have h1 := lostI_bd x M hM hb i (by omega)
    have h2 := hb i (by omega)
    rw [lostI_step x i (by omega)]
    have : ((i + 1 : Nat) : Int) * M = i * M + M := by rw [Int.natCast_add, Int.add_mul]; simp
    omega
theorem rcvLostS_spec (b : Nat) (m : Rcv) (w : World) (S : BSet) (hS : (sepL []).sat S w) (hv : Sees w S (.blk b #[i64 (m).last, i64 (m).lost, i64 (m).num, i64 (m).peer, i64 (m).age] 85)) :
    Tri Try.prog 49 #[ptr b 0] w S fun u A => u = i64 m.lost ∧ A = [] := by
  refine Tri.enter (l := [ptr b 0]) Try.func49 rfl Try.ntmps49 rfl [(0, ptr b 0)] (subA rfl) hS ?_
  repeat first
    | (apply WL.q; exact rfl; exact rfl; exact rfl; (first | (apply EvW.move; exact rfl) | (apply EvW.assign; exact rfl) | (apply EvW.nilPtr; exact rfl) | (apply EvW.fieldAddr0; exact rfl; exact FldC.eq) | (apply EvW.ldSeen; exact rfl; exact ScalC.eq; assumption; (first | exact rfl | assumption))))
    | refine WC.seq ?_ | refine WC.region ?_ | refine WL.nil ?_ | refine WE.next ?_ | refine WC.ret ?_
  refine WE.ret1 rfl rfl ?_
  exact ⟨rfl, rfl⟩
theorem lostI_spec (x : Img) (w : World) (S : BSet) (hS : (sepL []).sat S w) (hx : x.Seen w S) (hb : ∀ k, k < x.vs.length → 0 ≤ (x.vs.getD k default).rc.lost ∧ (x.vs.getD k default).rc.lost ≤ 1152921504606846976) :
    Tri Try.prog 19 #[ptr x.b 0] w S fun u A => u = i64 (x.lost 4) ∧ A = [] := by
  refine Tri.enter (l := [ptr x.b 0]) Try.func19 rfl Try.ntmps19 rfl [(0, ptr x.b 0)] (subA rfl) hS ?_
  have hB := hx.blk
  have hV := hx.vv
  have hlen := hx.len
  repeat first
    | (apply WL.q; exact rfl; exact rfl; exact rfl; (first | (apply EvW.move; exact rfl) | (apply EvW.assign; exact rfl) | (apply EvW.nilPtr; exact rfl) | (apply EvW.fieldAddr0; exact rfl; exact FldC.eq) | (apply EvW.ldSeen; exact rfl; exact ScalC.eq; assumption; (first | exact rfl | assumption)) | (apply EvW.lenRow; exact rfl; exact UndC.eq; assumption)))
    | refine WC.seq ?_ | refine WC.region ?_ | refine WL.nil ?_ | refine WE.next ?_ | refine WC.block ?_
  refine WC.loopK (σ := Nat) [9, 10] (fun s => [(11, i64 s), (3, i64 (x.lost s))]) (fun s => []) (fun s => s ≤ 4) (fun s => 4 - s) 0 (by (focus ((repeat (first | exact Pick.nil | (apply Pick.cons; exact rfl))); done))) (by (focus ((repeat (first | exact trivial | (refine ⟨rfl, ?_⟩))); done))) (fun _ h => h.keep (by repeat constructor)) (Nat.zero_le _) (fun s hs => ?_)
  obtain ⟨i, rfl⟩ : ∃ q, q = s := ⟨s, rfl⟩
  simp only [List.cons_append, List.nil_append] at hs ⊢
  have hbd := lostI_bd x 1152921504606846976 (by decide) hb i (by omega)
  by_cases hlt : (i : Int) < (4 : Nat)
  · have hk := hx.v i (by omega)
    have hkb := hb i (by omega)
    have hat := Img.at (x := x) (k := i) (by omega)
    have hst := lostI_step x i (by omega)
    obtain ⟨v, hv⟩ : ∃ v, x.vs.getD i default = v := ⟨_, rfl⟩
    rw [hv] at hk hat hst hkb
    have hvb := hk.blk
    repeat first
      | (apply WL.q; exact rfl; exact rfl; exact rfl; (first | (apply EvW.cmpT; exact rfl; exact rfl; exact rfl; omega) | (apply EvW.idxRow; exact rfl; exact rfl; exact UndC.eq; exact SzC.eq; assumption; omega; omega)))
      | refine WC.seq ?_ | refine WC.region ?_ | refine WL.nil ?_ | refine WE.next ?_ | refine WC.block ?_ | refine WC.skip ?_ | refine WC.condT rfl ?_
    try refine WL.wanted rfl rfl rfl ?_
    (apply WL.q; exact rfl; exact rfl; exact rfl; (apply EvW.ldRow (i := i) (off := 0) (q := ptr v.b 0); exact rfl; exact ScalC.eq; assumption; exact hat))
    repeat first
      | (apply WL.q; exact rfl; exact rfl; exact rfl; (first | (apply EvW.move; exact rfl) | (apply EvW.assign; exact rfl) | (apply EvW.nilPtr; exact rfl) | (apply EvW.fieldAddr0; exact rfl; exact FldC.eq) | (apply EvW.ldSeen; exact rfl; exact ScalC.eq; assumption; (first | exact rfl | assumption))))
      | refine WC.region ?_ | refine WL.nil ?_ | refine WE.next ?_
    try refine WL.wanted rfl rfl rfl ?_
    apply WL.callA ([])
    · exact rfl
    · exact rfl
    · exact fun w => Try.call49 _ w
    · (focus ((repeat constructor); done))
    · exact fun w1 S1 hS1 hs1 ho1 => rcvLostS_spec v.r v.rc w1 S1 hS1 (hs1 _ hk.rcv)
    rintro _ _ ⟨rfl, rfl⟩
    first | refine WL.app4 ?_ | refine WL.app3 ?_ | refine WL.app2 ?_ | refine WL.app1 ?_ | refine WL.app0 ?_ | skip
    repeat first
      | (apply WL.q; exact rfl; exact rfl; exact rfl; (first | (apply EvW.move; exact rfl) | (apply EvW.assign; exact rfl) | (apply EvW.arN; exact rfl; exact rfl; exact rfl; refine i64_in ?_ ?_ <;> omega)))
      | refine WC.region ?_ | refine WL.nil ?_ | refine WE.next ?_ | refine WE.out ?_
    rw [← hst]
    skip
    exact WE.again (s := i) ((i + 1)) (by omega) (by (focus ((repeat (first | exact trivial | (refine ⟨rfl, ?_⟩))); done))) (fun _ h => (by (try simp only []); exact h.keep (by repeat constructor))) (by (try simp only []); omega)
  · obtain rfl : i = 4 := by omega
    repeat first
      | (apply WL.q; exact rfl; exact rfl; exact rfl; (first | (apply EvW.move; exact rfl) | (apply EvW.assign; exact rfl) | (apply EvW.cmpF; exact rfl; exact rfl; exact rfl; omega)))
      | refine WC.seq ?_ | refine WC.region ?_ | refine WL.nil ?_ | refine WE.next ?_ | refine WC.exit ?_ | refine WE.pass ?_ | refine WE.hit ?_ | refine WC.condF rfl ?_ | refine WC.ret ?_
    refine WE.bare ?_
    refine WE.ret1 rfl rfl ?_
    exact ⟨rfl, rfl⟩
/-- Of a controller, in the document's image: its receiver, the numbers that came, what it said, when. -/
structure REar where
  r : Nat
  v : Value
  ns : List Int
  rc : Rcv
  sd : Q4
  stamp : Int
instance : Inhabited REar := ⟨⟨0, .slice none 0 0, [], default, default, -1⟩⟩
structure RImg where
  b : Nat
  rv : Value
  sv : Value
  tv : Value
  es : List REar
def rPtr (e : REar) : Value := ptr e.r 0
def rSt (e : REar) : List Value := [e.sd.a, e.sd.b, e.sd.y, e.sd.d]
def RImg.sts (x : RImg) : List Int := x.es.map REar.stamp
structure REar.Seen (e : REar) (w : World) (S : BSet) : Prop where
  blk : Sees w S (.blk (e).r #[i64 (e).rc.peer, i64 (e).rc.age, i64 (e).rc.last, (e).v] 106)
  ns : Sees w S (.row 1 e.v e.ns.length (e.ns.map i64))
  sd : e.sd.Seen w S
theorem REar.Seen.down {v : REar} {w w' : World} {S S' : BSet} (h : v.Seen w S) (k : ∀ B, Sees w S B → Sees w' S' B) : v.Seen w' S' := ⟨k _ h.blk, k _ h.ns, h.sd.down k⟩
structure RImg.Seen (x : RImg) (c : Cfg) (w : World) (S : BSet) : Prop where
  blk : Sees w S (.blk (x).b #[(c).vS, (c).vJ, (c).vG, (c).vC, (c).vR, i64 (c).age, i64 (c).brake, i64 (c).hold, i64 (c).budget, (x).rv, (x).sv, (x).tv] 102)
  c : c.Seen w S
  rv : Sees w S (.row 1 x.rv 4 (x.es.map rPtr))
  sv : Sees w S (.row 4 x.sv 4 (x.es.flatMap rSt))
  tv : Sees w S (.row 1 x.tv x.sts.length (x.sts.map i64))
  len : x.es.length = 4
  e : ∀ k, k < 4 → ((x.es.getD k default)).Seen w S
theorem RImg.Seen.down {x : RImg} {c : Cfg} {w w' : World} {S S' : BSet} (h : x.Seen c w S) (k : ∀ B, Sees w S B → Sees w' S' B) : x.Seen c w' S' := ⟨k _ h.blk, h.c.down k, k _ h.rv, k _ h.sv, k _ h.tv, h.len, fun i hi => (h.e i hi).down k⟩
def RImg.st (x : RImg) (oc : Int) : Int := ((x.es.getD oc.toNat default)).stamp
theorem RImg.sts_at {x : RImg} {k : Nat} (h : k < x.es.length) : x.sts.getD k 0 = ((x.es.getD k default)).stamp := by
  unfold RImg.sts
  rw [List.getD_eq_getElem?_getD, List.getElem?_map, getD_some (d := default) h]; rfl
theorem RImg.sts_len (x : RImg) : x.sts.length = x.es.length := List.length_map ..
theorem raliveI_spec (x : RImg) (c : Cfg) (now oc : Int) (g : Bool) (w : World) (S : BSet) (hS : (sepL []).sat S w) (hx : x.Seen c w S) (hw : now ≤ 9223372036854775807) (hg : aliveP x.st now c.age oc = g) :
    Tri Try.prog 18 #[ptr x.b 0, i64 now, i64 oc] w S fun u A => u = .bool g ∧ A = [] := by
  refine Tri.enter (l := [ptr x.b 0, i64 now, i64 oc]) Try.func18 rfl Try.ntmps18 rfl [(0, ptr x.b 0), (1, i64 now), (2, i64 oc)] (subA rfl) hS ?_
  have hB := hx.blk
  have hV := hx.tv
  by_cases h0 : 0 ≤ oc
  · by_cases h4 : oc < 4
    · have hlen : x.sts.length = 4 := by rw [x.sts_len, hx.len]
      have hse : x.sts.getD oc.toNat 0 = x.st oc := RImg.sts_at (by rw [hx.len]; omega)
      rw [aliveP_in ⟨h0, h4⟩, ← hse] at hg
      obtain ⟨s, hs⟩ : ∃ s, x.sts.getD oc.toNat 0 = s := ⟨_, rfl⟩
      rw [hs] at hg
      subst hg
      unfold freshF
      by_cases h1 : 0 ≤ s
      · by_cases h2 : s ≤ now
        · rw [decide_eq_true h1, decide_eq_true h2, Bool.true_and, Bool.true_and]
          subst hs
          repeat first
            | (apply WL.q; exact rfl; exact rfl; exact rfl; (first | (apply EvW.assign; exact rfl)))
            | refine WC.seq ?_ | refine WC.region ?_ | refine WL.nil ?_ | refine WE.next ?_
          repeat refine WC.seq ?_
          refine WC.keep (xs := []) (by repeat constructor) ?_
          apply WC.par _ (fun c : Ch => []) [] [] [] Try.mixed
          · (focus ((repeat (first | exact Restr.nil | (apply Restr.keep; exact rfl; exact rfl) | (apply Restr.drop; exact rfl))); done))
          · intro c; exact (by repeat constructor)
          · exact rfl
          · decide +kernel
          · decide +kernel
          · intro c
            (apply Par.quiet _ []; exact rfl; decide +kernel; exact rfl; intro R; refine ⟨_, (by repeat constructor), ?_⟩;
                 (first | (apply EvW.move; exact rfl)))
            (apply Par.quiet _ []; exact rfl; decide +kernel; exact rfl; intro R; refine ⟨_, (by repeat constructor), ?_⟩;
                 (first | (apply EvW.cmpT; exact rfl; exact rfl; exact rfl; omega)))
            (apply Par.quiet _ []; exact rfl; decide +kernel; exact rfl; intro R; refine ⟨_, (by repeat constructor), ?_⟩;
                 (first | (apply EvW.move; exact rfl)))
            first
              | (apply Par.skip; exact rfl; decide +kernel; exact rfl)
              | (apply Par.quiet _ []; exact rfl; decide +kernel; exact rfl; intro R; refine ⟨_, (by repeat constructor), ?_⟩;
                 (first | (apply EvW.move; exact rfl)))
            first
              | (apply Par.skip; exact rfl; decide +kernel; exact rfl)
              | (apply Par.quiet _ []; exact rfl; decide +kernel; exact rfl; intro R; refine ⟨_, (by repeat constructor), ?_⟩;
                 (first | (apply EvW.cmpT; exact rfl; exact rfl; exact rfl; omega)))
            (apply Par.quiet _ []; exact rfl; decide +kernel; exact rfl; intro R; refine ⟨_, (by repeat constructor), ?_⟩;
                 (first | (apply EvW.pickT; exact rfl; exact rfl)))
            (apply Par.quiet _ []; exact rfl; decide +kernel; exact rfl; intro R; refine ⟨_, (by repeat constructor), ?_⟩;
                 (first | (apply EvW.move; exact rfl)))
            first
              | (apply Par.skip; exact rfl; decide +kernel; exact rfl)
              | (apply Par.quiet _ []; exact rfl; decide +kernel; exact rfl; intro R; refine ⟨_, (by repeat constructor), ?_⟩;
                 (first | (apply EvW.move; exact rfl)))
            first
              | (apply Par.skip; exact rfl; decide +kernel; exact rfl)
              | (apply Par.quiet _ []; exact rfl; decide +kernel; exact rfl; intro R; refine ⟨_, (by repeat constructor), ?_⟩;
                 (first | (apply EvW.nilPtr; exact rfl)))
            first
              | (apply Par.skip; exact rfl; decide +kernel; exact rfl)
              | (apply Par.quiet _ []; exact rfl; decide +kernel; exact rfl; intro R; refine ⟨_, (by repeat constructor), ?_⟩;
                 (first | (apply EvW.fieldAddr0; exact rfl; exact FldC.eq)))
            first
              | (apply Par.skip; exact rfl; decide +kernel; exact rfl)
              | (apply Par.quiet _ []; exact rfl; decide +kernel; exact rfl; intro R; refine ⟨_, (by repeat constructor), ?_⟩;
                 (first | (apply EvW.ldSeen; exact rfl; exact ScalC.eq; assumption; (first | exact rfl | assumption))))
            first
              | (apply Par.skip; exact rfl; decide +kernel; exact rfl)
              | (apply Par.quiet _ []; exact rfl; decide +kernel; exact rfl; intro R; refine ⟨_, (by repeat constructor), ?_⟩;
                 (first | (apply EvW.move; exact rfl)))
            first
              | (apply Par.skip; exact rfl; decide +kernel; exact rfl)
              | (apply Par.quiet _ []; exact rfl; decide +kernel; exact rfl; intro R; refine ⟨_, (by repeat constructor), ?_⟩;
                 (first | (apply EvW.idxRow; exact rfl; exact rfl; exact UndC.eq; exact SzC.eq; assumption; omega; omega)))
            first
              | (apply Par.skip; exact rfl; decide +kernel; exact rfl)
              | (apply Par.quiet _ []; exact rfl; decide +kernel; exact rfl; intro R; refine ⟨_, (by repeat constructor), ?_⟩;
                 (first | (apply EvW.ldInt; exact rfl; exact ScalC.eq; assumption; omega)))
            first
              | (apply Par.skip; exact rfl; decide +kernel; exact rfl)
              | (apply Par.quiet _ []; exact rfl; decide +kernel; exact rfl; intro R; refine ⟨_, (by repeat constructor), ?_⟩;
                 (first | (apply EvW.cmpT; exact rfl; exact rfl; exact rfl; omega)))
            (apply Par.quiet _ []; exact rfl; decide +kernel; exact rfl; intro R; refine ⟨_, (by repeat constructor), ?_⟩;
                 (first | (apply EvW.pickT; exact rfl; exact rfl)))
            (apply Par.quiet _ []; exact rfl; decide +kernel; exact rfl; intro R; refine ⟨_, (by repeat constructor), ?_⟩;
                 (first | (apply EvW.move; exact rfl)))
            first
              | (apply Par.skip; exact rfl; decide +kernel; exact rfl)
              | (apply Par.quiet _ []; exact rfl; decide +kernel; exact rfl; intro R; refine ⟨_, (by repeat constructor), ?_⟩;
                 (first | (apply EvW.move; exact rfl)))
            first
              | (apply Par.skip; exact rfl; decide +kernel; exact rfl)
              | (apply Par.quiet _ []; exact rfl; decide +kernel; exact rfl; intro R; refine ⟨_, (by repeat constructor), ?_⟩;
                 (first | (apply EvW.nilPtr; exact rfl)))
            first
              | (apply Par.skip; exact rfl; decide +kernel; exact rfl)
              | (apply Par.quiet _ []; exact rfl; decide +kernel; exact rfl; intro R; refine ⟨_, (by repeat constructor), ?_⟩;
                 (first | (apply EvW.fieldAddr0; exact rfl; exact FldC.eq)))
            first
              | (apply Par.skip; exact rfl; decide +kernel; exact rfl)
              | (apply Par.quiet _ []; exact rfl; decide +kernel; exact rfl; intro R; refine ⟨_, (by repeat constructor), ?_⟩;
                 (first | (apply EvW.ldSeen; exact rfl; exact ScalC.eq; assumption; (first | exact rfl | assumption))))
            first
              | (apply Par.skip; exact rfl; decide +kernel; exact rfl)
              | (apply Par.quiet _ []; exact rfl; decide +kernel; exact rfl; intro R; refine ⟨_, (by repeat constructor), ?_⟩;
                 (first | (apply EvW.move; exact rfl)))
            first
              | (apply Par.skip; exact rfl; decide +kernel; exact rfl)
              | (apply Par.quiet _ []; exact rfl; decide +kernel; exact rfl; intro R; refine ⟨_, (by repeat constructor), ?_⟩;
                 (first | (apply EvW.idxRow; exact rfl; exact rfl; exact UndC.eq; exact SzC.eq; assumption; omega; omega)))
            first
              | (apply Par.skip; exact rfl; decide +kernel; exact rfl)
              | (apply Par.quiet _ []; exact rfl; decide +kernel; exact rfl; intro R; refine ⟨_, (by repeat constructor), ?_⟩;
                 (first | (apply EvW.ldInt; exact rfl; exact ScalC.eq; assumption; omega)))
            first
              | (apply Par.skip; exact rfl; decide +kernel; exact rfl)
              | (apply Par.quiet _ []; exact rfl; decide +kernel; exact rfl; intro R; refine ⟨_, (by repeat constructor), ?_⟩;
                 (first | (apply EvW.move; exact rfl)))
            first
              | (apply Par.skip; exact rfl; decide +kernel; exact rfl)
              | (apply Par.quiet _ []; exact rfl; decide +kernel; exact rfl; intro R; refine ⟨_, (by repeat constructor), ?_⟩;
                 (first | (apply EvW.cmpT; exact rfl; exact rfl; exact rfl; omega)))
            (apply Par.quiet _ []; exact rfl; decide +kernel; exact rfl; intro R; refine ⟨_, (by repeat constructor), ?_⟩;
                 (first | (apply EvW.pickT; exact rfl; exact rfl)))
            (apply Par.quiet _ []; exact rfl; decide +kernel; exact rfl; intro R; refine ⟨_, (by repeat constructor), ?_⟩;
                 (first | (apply EvW.move; exact rfl)))
            first
              | (apply Par.skip; exact rfl; decide +kernel; exact rfl)
              | (apply Par.quiet _ []; exact rfl; decide +kernel; exact rfl; intro R; refine ⟨_, (by repeat constructor), ?_⟩;
                 (first | (apply EvW.move; exact rfl)))
            first
              | (apply Par.skip; exact rfl; decide +kernel; exact rfl)
              | (apply Par.quiet _ []; exact rfl; decide +kernel; exact rfl; intro R; refine ⟨_, (by repeat constructor), ?_⟩;
                 (first | (apply EvW.move; exact rfl)))
            first
              | (apply Par.skip; exact rfl; decide +kernel; exact rfl)
              | (apply Par.quiet _ []; exact rfl; decide +kernel; exact rfl; intro R; refine ⟨_, (by repeat constructor), ?_⟩;
                 (first | (apply EvW.nilPtr; exact rfl)))
            first
              | (apply Par.skip; exact rfl; decide +kernel; exact rfl)
              | (apply Par.quiet _ []; exact rfl; decide +kernel; exact rfl; intro R; refine ⟨_, (by repeat constructor), ?_⟩;
                 (first | (apply EvW.fieldAddr0; exact rfl; exact FldC.eq)))
            first
              | (apply Par.skip; exact rfl; decide +kernel; exact rfl)
              | (apply Par.quiet _ []; exact rfl; decide +kernel; exact rfl; intro R; refine ⟨_, (by repeat constructor), ?_⟩;
                 (first | (apply EvW.ldSeen; exact rfl; exact ScalC.eq; assumption; (first | exact rfl | assumption))))
            first
              | (apply Par.skip; exact rfl; decide +kernel; exact rfl)
              | (apply Par.quiet _ []; exact rfl; decide +kernel; exact rfl; intro R; refine ⟨_, (by repeat constructor), ?_⟩;
                 (first | (apply EvW.move; exact rfl)))
            first
              | (apply Par.skip; exact rfl; decide +kernel; exact rfl)
              | (apply Par.quiet _ []; exact rfl; decide +kernel; exact rfl; intro R; refine ⟨_, (by repeat constructor), ?_⟩;
                 (first | (apply EvW.idxRow; exact rfl; exact rfl; exact UndC.eq; exact SzC.eq; assumption; omega; omega)))
            first
              | (apply Par.skip; exact rfl; decide +kernel; exact rfl)
              | (apply Par.quiet _ []; exact rfl; decide +kernel; exact rfl; intro R; refine ⟨_, (by repeat constructor), ?_⟩;
                 (first | (apply EvW.ldInt; exact rfl; exact ScalC.eq; assumption; omega)))
            first
              | (apply Par.skip; exact rfl; decide +kernel; exact rfl)
              | (apply Par.quiet _ []; exact rfl; decide +kernel; exact rfl; intro R; refine ⟨_, (by repeat constructor), ?_⟩;
                 (first | (apply EvW.arN; exact rfl; exact rfl; exact rfl; refine i64_in ?_ ?_ <;> omega)))
            first
              | (apply Par.skip; exact rfl; decide +kernel; exact rfl)
              | (apply Par.quiet _ []; exact rfl; decide +kernel; exact rfl; intro R; refine ⟨_, (by repeat constructor), ?_⟩;
                 (first | (apply EvW.move; exact rfl)))
            first
              | (apply Par.skip; exact rfl; decide +kernel; exact rfl)
              | (apply Par.quiet _ []; exact rfl; decide +kernel; exact rfl; intro R; refine ⟨_, (by repeat constructor), ?_⟩;
                 (first | (apply EvW.nilPtr; exact rfl)))
            first
              | (apply Par.skip; exact rfl; decide +kernel; exact rfl)
              | (apply Par.quiet _ []; exact rfl; decide +kernel; exact rfl; intro R; refine ⟨_, (by repeat constructor), ?_⟩;
                 (first | (apply EvW.fieldAddr0; exact rfl; exact FldC.eq)))
            first
              | (apply Par.skip; exact rfl; decide +kernel; exact rfl)
              | (apply Par.quiet _ []; exact rfl; decide +kernel; exact rfl; intro R; refine ⟨_, (by repeat constructor), ?_⟩;
                 (first | (apply EvW.fieldAddr0; exact rfl; exact FldC.eq)))
            first
              | (apply Par.skip; exact rfl; decide +kernel; exact rfl)
              | (apply Par.quiet _ []; exact rfl; decide +kernel; exact rfl; intro R; refine ⟨_, (by repeat constructor), ?_⟩;
                 (first | (apply EvW.fieldAddr; exact rfl; exact FldC.eq)))
            first
              | (apply Par.skip; exact rfl; decide +kernel; exact rfl)
              | (apply Par.quiet _ []; exact rfl; decide +kernel; exact rfl; intro R; refine ⟨_, (by repeat constructor), ?_⟩;
                 (first | (apply EvW.ldSeen; exact rfl; exact ScalC.eq; assumption; (first | exact rfl | assumption))))
            first
              | (apply Par.skip; exact rfl; decide +kernel; exact rfl)
              | (apply Par.quiet _ []; exact rfl; decide +kernel; exact rfl; intro R; refine ⟨_, (by repeat constructor), ?_⟩;
                 (first | (apply EvW.cmp; exact rfl; exact rfl; exact rfl)))
            (apply Par.quiet _ []; exact rfl; decide +kernel; exact rfl; intro R; refine ⟨_, (by repeat constructor), ?_⟩;
                 (first | (apply EvW.pickT; exact rfl; exact rfl)))
            (apply Par.quiet _ []; exact rfl; decide +kernel; exact rfl; intro R; refine ⟨_, (by repeat constructor), ?_⟩;
                 (first | (apply EvW.assign; exact rfl)))
            exact Par.nil
          · repeat (first | exact AllN.nil | (apply AllN.cons; (intro c x; (repeat (first | exact IndA.nil | (apply IndA.skip; decide +kernel) | apply IndA.same))))) 
          · repeat (first | exact AllN.nil | (apply AllN.cons; (intro c x; (repeat (first | exact IndT.nil | (apply IndT.skip; decide +kernel) | apply IndT.same))))) 
          · exact fun _ => rfl
          intro c
          refine ⟨_, (by repeat constructor), ?_⟩
          apply WE.writ
          · (focus ((repeat (first | exact Writ.nil | apply Writ.some | apply Writ.none)); done))
          repeat first
            | refine WE.next ?_ | refine WC.ret ?_
          refine WE.ret1 rfl rfl ?_
          exact ⟨rfl, rfl⟩
        · rw [decide_eq_true h1, decide_eq_false h2]
          subst hs
          repeat first
            | (apply WL.q; exact rfl; exact rfl; exact rfl; (first | (apply EvW.assign; exact rfl)))
            | refine WC.seq ?_ | refine WC.region ?_ | refine WL.nil ?_ | refine WE.next ?_
          repeat refine WC.seq ?_
          refine WC.keep (xs := []) (by repeat constructor) ?_
          apply WC.par _ (fun c : Ch => []) [] [] [] Try.mixed
          · (focus ((repeat (first | exact Restr.nil | (apply Restr.keep; exact rfl; exact rfl) | (apply Restr.drop; exact rfl))); done))
          · intro c; exact (by repeat constructor)
          · exact rfl
          · decide +kernel
          · decide +kernel
          · intro c
            (apply Par.quiet _ []; exact rfl; decide +kernel; exact rfl; intro R; refine ⟨_, (by repeat constructor), ?_⟩;
                 (first | (apply EvW.move; exact rfl)))
            (apply Par.quiet _ []; exact rfl; decide +kernel; exact rfl; intro R; refine ⟨_, (by repeat constructor), ?_⟩;
                 (first | (apply EvW.cmpT; exact rfl; exact rfl; exact rfl; omega)))
            (apply Par.quiet _ []; exact rfl; decide +kernel; exact rfl; intro R; refine ⟨_, (by repeat constructor), ?_⟩;
                 (first | (apply EvW.move; exact rfl)))
            first
              | (apply Par.skip; exact rfl; decide +kernel; exact rfl)
              | (apply Par.quiet _ []; exact rfl; decide +kernel; exact rfl; intro R; refine ⟨_, (by repeat constructor), ?_⟩;
                 (first | (apply EvW.move; exact rfl)))
            first
              | (apply Par.skip; exact rfl; decide +kernel; exact rfl)
              | (apply Par.quiet _ []; exact rfl; decide +kernel; exact rfl; intro R; refine ⟨_, (by repeat constructor), ?_⟩;
                 (first | (apply EvW.cmpT; exact rfl; exact rfl; exact rfl; omega)))
            (apply Par.quiet _ []; exact rfl; decide +kernel; exact rfl; intro R; refine ⟨_, (by repeat constructor), ?_⟩;
                 (first | (apply EvW.pickT; exact rfl; exact rfl)))
            (apply Par.quiet _ []; exact rfl; decide +kernel; exact rfl; intro R; refine ⟨_, (by repeat constructor), ?_⟩;
                 (first | (apply EvW.move; exact rfl)))
            first
              | (apply Par.skip; exact rfl; decide +kernel; exact rfl)
              | (apply Par.quiet _ []; exact rfl; decide +kernel; exact rfl; intro R; refine ⟨_, (by repeat constructor), ?_⟩;
                 (first | (apply EvW.move; exact rfl)))
            first
              | (apply Par.skip; exact rfl; decide +kernel; exact rfl)
              | (apply Par.quiet _ []; exact rfl; decide +kernel; exact rfl; intro R; refine ⟨_, (by repeat constructor), ?_⟩;
                 (first | (apply EvW.nilPtr; exact rfl)))
            first
              | (apply Par.skip; exact rfl; decide +kernel; exact rfl)
              | (apply Par.quiet _ []; exact rfl; decide +kernel; exact rfl; intro R; refine ⟨_, (by repeat constructor), ?_⟩;
                 (first | (apply EvW.fieldAddr0; exact rfl; exact FldC.eq)))
            first
              | (apply Par.skip; exact rfl; decide +kernel; exact rfl)
              | (apply Par.quiet _ []; exact rfl; decide +kernel; exact rfl; intro R; refine ⟨_, (by repeat constructor), ?_⟩;
                 (first | (apply EvW.ldSeen; exact rfl; exact ScalC.eq; assumption; (first | exact rfl | assumption))))
            first
              | (apply Par.skip; exact rfl; decide +kernel; exact rfl)
              | (apply Par.quiet _ []; exact rfl; decide +kernel; exact rfl; intro R; refine ⟨_, (by repeat constructor), ?_⟩;
                 (first | (apply EvW.move; exact rfl)))
            first
              | (apply Par.skip; exact rfl; decide +kernel; exact rfl)
              | (apply Par.quiet _ []; exact rfl; decide +kernel; exact rfl; intro R; refine ⟨_, (by repeat constructor), ?_⟩;
                 (first | (apply EvW.idxRow; exact rfl; exact rfl; exact UndC.eq; exact SzC.eq; assumption; omega; omega)))
            first
              | (apply Par.skip; exact rfl; decide +kernel; exact rfl)
              | (apply Par.quiet _ []; exact rfl; decide +kernel; exact rfl; intro R; refine ⟨_, (by repeat constructor), ?_⟩;
                 (first | (apply EvW.ldInt; exact rfl; exact ScalC.eq; assumption; omega)))
            first
              | (apply Par.skip; exact rfl; decide +kernel; exact rfl)
              | (apply Par.quiet _ []; exact rfl; decide +kernel; exact rfl; intro R; refine ⟨_, (by repeat constructor), ?_⟩;
                 (first | (apply EvW.cmpT; exact rfl; exact rfl; exact rfl; omega)))
            (apply Par.quiet _ []; exact rfl; decide +kernel; exact rfl; intro R; refine ⟨_, (by repeat constructor), ?_⟩;
                 (first | (apply EvW.pickT; exact rfl; exact rfl)))
            (apply Par.quiet _ []; exact rfl; decide +kernel; exact rfl; intro R; refine ⟨_, (by repeat constructor), ?_⟩;
                 (first | (apply EvW.move; exact rfl)))
            first
              | (apply Par.skip; exact rfl; decide +kernel; exact rfl)
              | (apply Par.quiet _ []; exact rfl; decide +kernel; exact rfl; intro R; refine ⟨_, (by repeat constructor), ?_⟩;
                 (first | (apply EvW.move; exact rfl)))
            first
              | (apply Par.skip; exact rfl; decide +kernel; exact rfl)
              | (apply Par.quiet _ []; exact rfl; decide +kernel; exact rfl; intro R; refine ⟨_, (by repeat constructor), ?_⟩;
                 (first | (apply EvW.nilPtr; exact rfl)))
            first
              | (apply Par.skip; exact rfl; decide +kernel; exact rfl)
              | (apply Par.quiet _ []; exact rfl; decide +kernel; exact rfl; intro R; refine ⟨_, (by repeat constructor), ?_⟩;
                 (first | (apply EvW.fieldAddr0; exact rfl; exact FldC.eq)))
            first
              | (apply Par.skip; exact rfl; decide +kernel; exact rfl)
              | (apply Par.quiet _ []; exact rfl; decide +kernel; exact rfl; intro R; refine ⟨_, (by repeat constructor), ?_⟩;
                 (first | (apply EvW.ldSeen; exact rfl; exact ScalC.eq; assumption; (first | exact rfl | assumption))))
            first
              | (apply Par.skip; exact rfl; decide +kernel; exact rfl)
              | (apply Par.quiet _ []; exact rfl; decide +kernel; exact rfl; intro R; refine ⟨_, (by repeat constructor), ?_⟩;
                 (first | (apply EvW.move; exact rfl)))
            first
              | (apply Par.skip; exact rfl; decide +kernel; exact rfl)
              | (apply Par.quiet _ []; exact rfl; decide +kernel; exact rfl; intro R; refine ⟨_, (by repeat constructor), ?_⟩;
                 (first | (apply EvW.idxRow; exact rfl; exact rfl; exact UndC.eq; exact SzC.eq; assumption; omega; omega)))
            first
              | (apply Par.skip; exact rfl; decide +kernel; exact rfl)
              | (apply Par.quiet _ []; exact rfl; decide +kernel; exact rfl; intro R; refine ⟨_, (by repeat constructor), ?_⟩;
                 (first | (apply EvW.ldInt; exact rfl; exact ScalC.eq; assumption; omega)))
            first
              | (apply Par.skip; exact rfl; decide +kernel; exact rfl)
              | (apply Par.quiet _ []; exact rfl; decide +kernel; exact rfl; intro R; refine ⟨_, (by repeat constructor), ?_⟩;
                 (first | (apply EvW.move; exact rfl)))
            first
              | (apply Par.skip; exact rfl; decide +kernel; exact rfl)
              | (apply Par.quiet _ []; exact rfl; decide +kernel; exact rfl; intro R; refine ⟨_, (by repeat constructor), ?_⟩;
                 (first | (apply EvW.cmpF; exact rfl; exact rfl; exact rfl; omega)))
            (apply Par.quiet _ []; exact rfl; decide +kernel; exact rfl; intro R; refine ⟨_, (by repeat constructor), ?_⟩;
                 (first | (apply EvW.pickT; exact rfl; exact rfl)))
            (apply Par.quiet _ []; exact rfl; decide +kernel; exact rfl; intro R; refine ⟨_, (by repeat constructor), ?_⟩;
                 (first | (apply EvW.move; exact rfl)))
            first
              | (apply Par.skip; exact rfl; decide +kernel; exact rfl)
              | (apply Par.quiet _ []; exact rfl; decide +kernel; exact rfl; intro R; refine ⟨_, (by repeat constructor), ?_⟩;
                 fail)
            first
              | (apply Par.skip; exact rfl; decide +kernel; exact rfl)
              | (apply Par.quiet _ []; exact rfl; decide +kernel; exact rfl; intro R; refine ⟨_, (by repeat constructor), ?_⟩;
                 fail)
            first
              | (apply Par.skip; exact rfl; decide +kernel; exact rfl)
              | (apply Par.quiet _ []; exact rfl; decide +kernel; exact rfl; intro R; refine ⟨_, (by repeat constructor), ?_⟩;
                 fail)
            first
              | (apply Par.skip; exact rfl; decide +kernel; exact rfl)
              | (apply Par.quiet _ []; exact rfl; decide +kernel; exact rfl; intro R; refine ⟨_, (by repeat constructor), ?_⟩;
                 fail)
            first
              | (apply Par.skip; exact rfl; decide +kernel; exact rfl)
              | (apply Par.quiet _ []; exact rfl; decide +kernel; exact rfl; intro R; refine ⟨_, (by repeat constructor), ?_⟩;
                 fail)
            first
              | (apply Par.skip; exact rfl; decide +kernel; exact rfl)
              | (apply Par.quiet _ []; exact rfl; decide +kernel; exact rfl; intro R; refine ⟨_, (by repeat constructor), ?_⟩;
                 fail)
            first
              | (apply Par.skip; exact rfl; decide +kernel; exact rfl)
              | (apply Par.quiet _ []; exact rfl; decide +kernel; exact rfl; intro R; refine ⟨_, (by repeat constructor), ?_⟩;
                 fail)
            first
              | (apply Par.skip; exact rfl; decide +kernel; exact rfl)
              | (apply Par.quiet _ []; exact rfl; decide +kernel; exact rfl; intro R; refine ⟨_, (by repeat constructor), ?_⟩;
                 fail)
            first
              | (apply Par.skip; exact rfl; decide +kernel; exact rfl)
              | (apply Par.quiet _ []; exact rfl; decide +kernel; exact rfl; intro R; refine ⟨_, (by repeat constructor), ?_⟩;
                 fail)
            first
              | (apply Par.skip; exact rfl; decide +kernel; exact rfl)
              | (apply Par.quiet _ []; exact rfl; decide +kernel; exact rfl; intro R; refine ⟨_, (by repeat constructor), ?_⟩;
                 fail)
            first
              | (apply Par.skip; exact rfl; decide +kernel; exact rfl)
              | (apply Par.quiet _ []; exact rfl; decide +kernel; exact rfl; intro R; refine ⟨_, (by repeat constructor), ?_⟩;
                 fail)
            first
              | (apply Par.skip; exact rfl; decide +kernel; exact rfl)
              | (apply Par.quiet _ []; exact rfl; decide +kernel; exact rfl; intro R; refine ⟨_, (by repeat constructor), ?_⟩;
                 fail)
            first
              | (apply Par.skip; exact rfl; decide +kernel; exact rfl)
              | (apply Par.quiet _ []; exact rfl; decide +kernel; exact rfl; intro R; refine ⟨_, (by repeat constructor), ?_⟩;
                 fail)
            first
              | (apply Par.skip; exact rfl; decide +kernel; exact rfl)
              | (apply Par.quiet _ []; exact rfl; decide +kernel; exact rfl; intro R; refine ⟨_, (by repeat constructor), ?_⟩;
                 fail)
            first
              | (apply Par.skip; exact rfl; decide +kernel; exact rfl)
              | (apply Par.quiet _ []; exact rfl; decide +kernel; exact rfl; intro R; refine ⟨_, (by repeat constructor), ?_⟩;
                 fail)
            first
              | (apply Par.skip; exact rfl; decide +kernel; exact rfl)
              | (apply Par.quiet _ []; exact rfl; decide +kernel; exact rfl; intro R; refine ⟨_, (by repeat constructor), ?_⟩;
                 fail)
            (apply Par.quiet _ []; exact rfl; decide +kernel; exact rfl; intro R; refine ⟨_, (by repeat constructor), ?_⟩;
                 (first | (apply EvW.pickF; exact rfl; exact rfl)))
            (apply Par.quiet _ []; exact rfl; decide +kernel; exact rfl; intro R; refine ⟨_, (by repeat constructor), ?_⟩;
                 (first | (apply EvW.assign; exact rfl)))
            exact Par.nil
          · repeat (first | exact AllN.nil | (apply AllN.cons; (intro c x; (repeat (first | exact IndA.nil | (apply IndA.skip; decide +kernel) | apply IndA.same))))) 
          · repeat (first | exact AllN.nil | (apply AllN.cons; (intro c x; (repeat (first | exact IndT.nil | (apply IndT.skip; decide +kernel) | apply IndT.same))))) 
          · exact fun _ => rfl
          intro c
          refine ⟨_, (by repeat constructor), ?_⟩
          apply WE.writ
          · (focus ((repeat (first | exact Writ.nil | apply Writ.some | apply Writ.none)); done))
          repeat first
            | refine WE.next ?_ | refine WC.ret ?_
          refine WE.ret1 rfl rfl ?_
          exact ⟨rfl, rfl⟩
      · rw [decide_eq_false h1]
        subst hs
        repeat first
          | (apply WL.q; exact rfl; exact rfl; exact rfl; (first | (apply EvW.assign; exact rfl)))
          | refine WC.seq ?_ | refine WC.region ?_ | refine WL.nil ?_ | refine WE.next ?_
        repeat refine WC.seq ?_
        refine WC.keep (xs := []) (by repeat constructor) ?_
        apply WC.par _ (fun c : Ch => []) [] [] [] Try.mixed
        · (focus ((repeat (first | exact Restr.nil | (apply Restr.keep; exact rfl; exact rfl) | (apply Restr.drop; exact rfl))); done))
        · intro c; exact (by repeat constructor)
        · exact rfl
        · decide +kernel
        · decide +kernel
        · intro c
          (apply Par.quiet _ []; exact rfl; decide +kernel; exact rfl; intro R; refine ⟨_, (by repeat constructor), ?_⟩;
               (first | (apply EvW.move; exact rfl)))
          (apply Par.quiet _ []; exact rfl; decide +kernel; exact rfl; intro R; refine ⟨_, (by repeat constructor), ?_⟩;
               (first | (apply EvW.cmpT; exact rfl; exact rfl; exact rfl; omega)))
          (apply Par.quiet _ []; exact rfl; decide +kernel; exact rfl; intro R; refine ⟨_, (by repeat constructor), ?_⟩;
               (first | (apply EvW.move; exact rfl)))
          first
            | (apply Par.skip; exact rfl; decide +kernel; exact rfl)
            | (apply Par.quiet _ []; exact rfl; decide +kernel; exact rfl; intro R; refine ⟨_, (by repeat constructor), ?_⟩;
               (first | (apply EvW.move; exact rfl)))
          first
            | (apply Par.skip; exact rfl; decide +kernel; exact rfl)
            | (apply Par.quiet _ []; exact rfl; decide +kernel; exact rfl; intro R; refine ⟨_, (by repeat constructor), ?_⟩;
               (first | (apply EvW.cmpT; exact rfl; exact rfl; exact rfl; omega)))
          (apply Par.quiet _ []; exact rfl; decide +kernel; exact rfl; intro R; refine ⟨_, (by repeat constructor), ?_⟩;
               (first | (apply EvW.pickT; exact rfl; exact rfl)))
          (apply Par.quiet _ []; exact rfl; decide +kernel; exact rfl; intro R; refine ⟨_, (by repeat constructor), ?_⟩;
               (first | (apply EvW.move; exact rfl)))
          first
            | (apply Par.skip; exact rfl; decide +kernel; exact rfl)
            | (apply Par.quiet _ []; exact rfl; decide +kernel; exact rfl; intro R; refine ⟨_, (by repeat constructor), ?_⟩;
               (first | (apply EvW.move; exact rfl)))
          first
            | (apply Par.skip; exact rfl; decide +kernel; exact rfl)
            | (apply Par.quiet _ []; exact rfl; decide +kernel; exact rfl; intro R; refine ⟨_, (by repeat constructor), ?_⟩;
               (first | (apply EvW.nilPtr; exact rfl)))
          first
            | (apply Par.skip; exact rfl; decide +kernel; exact rfl)
            | (apply Par.quiet _ []; exact rfl; decide +kernel; exact rfl; intro R; refine ⟨_, (by repeat constructor), ?_⟩;
               (first | (apply EvW.fieldAddr0; exact rfl; exact FldC.eq)))
          first
            | (apply Par.skip; exact rfl; decide +kernel; exact rfl)
            | (apply Par.quiet _ []; exact rfl; decide +kernel; exact rfl; intro R; refine ⟨_, (by repeat constructor), ?_⟩;
               (first | (apply EvW.ldSeen; exact rfl; exact ScalC.eq; assumption; (first | exact rfl | assumption))))
          first
            | (apply Par.skip; exact rfl; decide +kernel; exact rfl)
            | (apply Par.quiet _ []; exact rfl; decide +kernel; exact rfl; intro R; refine ⟨_, (by repeat constructor), ?_⟩;
               (first | (apply EvW.move; exact rfl)))
          first
            | (apply Par.skip; exact rfl; decide +kernel; exact rfl)
            | (apply Par.quiet _ []; exact rfl; decide +kernel; exact rfl; intro R; refine ⟨_, (by repeat constructor), ?_⟩;
               (first | (apply EvW.idxRow; exact rfl; exact rfl; exact UndC.eq; exact SzC.eq; assumption; omega; omega)))
          first
            | (apply Par.skip; exact rfl; decide +kernel; exact rfl)
            | (apply Par.quiet _ []; exact rfl; decide +kernel; exact rfl; intro R; refine ⟨_, (by repeat constructor), ?_⟩;
               (first | (apply EvW.ldInt; exact rfl; exact ScalC.eq; assumption; omega)))
          first
            | (apply Par.skip; exact rfl; decide +kernel; exact rfl)
            | (apply Par.quiet _ []; exact rfl; decide +kernel; exact rfl; intro R; refine ⟨_, (by repeat constructor), ?_⟩;
               (first | (apply EvW.cmpF; exact rfl; exact rfl; exact rfl; omega)))
          (apply Par.quiet _ []; exact rfl; decide +kernel; exact rfl; intro R; refine ⟨_, (by repeat constructor), ?_⟩;
               (first | (apply EvW.pickT; exact rfl; exact rfl)))
          (apply Par.quiet _ []; exact rfl; decide +kernel; exact rfl; intro R; refine ⟨_, (by repeat constructor), ?_⟩;
               (first | (apply EvW.move; exact rfl)))
          first
            | (apply Par.skip; exact rfl; decide +kernel; exact rfl)
            | (apply Par.quiet _ []; exact rfl; decide +kernel; exact rfl; intro R; refine ⟨_, (by repeat constructor), ?_⟩;
               fail)
          first
            | (apply Par.skip; exact rfl; decide +kernel; exact rfl)
            | (apply Par.quiet _ []; exact rfl; decide +kernel; exact rfl; intro R; refine ⟨_, (by repeat constructor), ?_⟩;
               fail)
          first
            | (apply Par.skip; exact rfl; decide +kernel; exact rfl)
            | (apply Par.quiet _ []; exact rfl; decide +kernel; exact rfl; intro R; refine ⟨_, (by repeat constructor), ?_⟩;
               fail)
          first
            | (apply Par.skip; exact rfl; decide +kernel; exact rfl)
            | (apply Par.quiet _ []; exact rfl; decide +kernel; exact rfl; intro R; refine ⟨_, (by repeat constructor), ?_⟩;
               fail)
          first
            | (apply Par.skip; exact rfl; decide +kernel; exact rfl)
            | (apply Par.quiet _ []; exact rfl; decide +kernel; exact rfl; intro R; refine ⟨_, (by repeat constructor), ?_⟩;
               fail)
          first
            | (apply Par.skip; exact rfl; decide +kernel; exact rfl)
            | (apply Par.quiet _ []; exact rfl; decide +kernel; exact rfl; intro R; refine ⟨_, (by repeat constructor), ?_⟩;
               fail)
          first
            | (apply Par.skip; exact rfl; decide +kernel; exact rfl)
            | (apply Par.quiet _ []; exact rfl; decide +kernel; exact rfl; intro R; refine ⟨_, (by repeat constructor), ?_⟩;
               fail)
          first
            | (apply Par.skip; exact rfl; decide +kernel; exact rfl)
            | (apply Par.quiet _ []; exact rfl; decide +kernel; exact rfl; intro R; refine ⟨_, (by repeat constructor), ?_⟩;
               fail)
          first
            | (apply Par.skip; exact rfl; decide +kernel; exact rfl)
            | (apply Par.quiet _ []; exact rfl; decide +kernel; exact rfl; intro R; refine ⟨_, (by repeat constructor), ?_⟩;
               fail)
          (apply Par.quiet _ []; exact rfl; decide +kernel; exact rfl; intro R; refine ⟨_, (by repeat constructor), ?_⟩;
               (first | (apply EvW.pickF; exact rfl; exact rfl)))
          (apply Par.quiet _ []; exact rfl; decide +kernel; exact rfl; intro R; refine ⟨_, (by repeat constructor), ?_⟩;
               (first | (apply EvW.move; exact rfl)))
          first
            | (apply Par.skip; exact rfl; decide +kernel; exact rfl)
            | (apply Par.quiet _ []; exact rfl; decide +kernel; exact rfl; intro R; refine ⟨_, (by repeat constructor), ?_⟩;
               fail)
          first
            | (apply Par.skip; exact rfl; decide +kernel; exact rfl)
            | (apply Par.quiet _ []; exact rfl; decide +kernel; exact rfl; intro R; refine ⟨_, (by repeat constructor), ?_⟩;
               fail)
          first
            | (apply Par.skip; exact rfl; decide +kernel; exact rfl)
            | (apply Par.quiet _ []; exact rfl; decide +kernel; exact rfl; intro R; refine ⟨_, (by repeat constructor), ?_⟩;
               fail)
          first
            | (apply Par.skip; exact rfl; decide +kernel; exact rfl)
            | (apply Par.quiet _ []; exact rfl; decide +kernel; exact rfl; intro R; refine ⟨_, (by repeat constructor), ?_⟩;
               fail)
          first
            | (apply Par.skip; exact rfl; decide +kernel; exact rfl)
            | (apply Par.quiet _ []; exact rfl; decide +kernel; exact rfl; intro R; refine ⟨_, (by repeat constructor), ?_⟩;
               fail)
          first
            | (apply Par.skip; exact rfl; decide +kernel; exact rfl)
            | (apply Par.quiet _ []; exact rfl; decide +kernel; exact rfl; intro R; refine ⟨_, (by repeat constructor), ?_⟩;
               fail)
          first
            | (apply Par.skip; exact rfl; decide +kernel; exact rfl)
            | (apply Par.quiet _ []; exact rfl; decide +kernel; exact rfl; intro R; refine ⟨_, (by repeat constructor), ?_⟩;
               fail)
          first
            | (apply Par.skip; exact rfl; decide +kernel; exact rfl)
            | (apply Par.quiet _ []; exact rfl; decide +kernel; exact rfl; intro R; refine ⟨_, (by repeat constructor), ?_⟩;
               fail)
          first
            | (apply Par.skip; exact rfl; decide +kernel; exact rfl)
            | (apply Par.quiet _ []; exact rfl; decide +kernel; exact rfl; intro R; refine ⟨_, (by repeat constructor), ?_⟩;
               fail)
          first
            | (apply Par.skip; exact rfl; decide +kernel; exact rfl)
            | (apply Par.quiet _ []; exact rfl; decide +kernel; exact rfl; intro R; refine ⟨_, (by repeat constructor), ?_⟩;
               fail)
          first
            | (apply Par.skip; exact rfl; decide +kernel; exact rfl)
            | (apply Par.quiet _ []; exact rfl; decide +kernel; exact rfl; intro R; refine ⟨_, (by repeat constructor), ?_⟩;
               fail)
          first
            | (apply Par.skip; exact rfl; decide +kernel; exact rfl)
            | (apply Par.quiet _ []; exact rfl; decide +kernel; exact rfl; intro R; refine ⟨_, (by repeat constructor), ?_⟩;
               fail)
          first
            | (apply Par.skip; exact rfl; decide +kernel; exact rfl)
            | (apply Par.quiet _ []; exact rfl; decide +kernel; exact rfl; intro R; refine ⟨_, (by repeat constructor), ?_⟩;
               fail)
          first
            | (apply Par.skip; exact rfl; decide +kernel; exact rfl)
            | (apply Par.quiet _ []; exact rfl; decide +kernel; exact rfl; intro R; refine ⟨_, (by repeat constructor), ?_⟩;
               fail)
          first
            | (apply Par.skip; exact rfl; decide +kernel; exact rfl)
            | (apply Par.quiet _ []; exact rfl; decide +kernel; exact rfl; intro R; refine ⟨_, (by repeat constructor), ?_⟩;
               fail)
          first
            | (apply Par.skip; exact rfl; decide +kernel; exact rfl)
            | (apply Par.quiet _ []; exact rfl; decide +kernel; exact rfl; intro R; refine ⟨_, (by repeat constructor), ?_⟩;
               fail)
          (apply Par.quiet _ []; exact rfl; decide +kernel; exact rfl; intro R; refine ⟨_, (by repeat constructor), ?_⟩;
               (first | (apply EvW.pickF; exact rfl; exact rfl)))
          (apply Par.quiet _ []; exact rfl; decide +kernel; exact rfl; intro R; refine ⟨_, (by repeat constructor), ?_⟩;
               (first | (apply EvW.assign; exact rfl)))
          exact Par.nil
        · repeat (first | exact AllN.nil | (apply AllN.cons; (intro c x; (repeat (first | exact IndA.nil | (apply IndA.skip; decide +kernel) | apply IndA.same))))) 
        · repeat (first | exact AllN.nil | (apply AllN.cons; (intro c x; (repeat (first | exact IndT.nil | (apply IndT.skip; decide +kernel) | apply IndT.same))))) 
        · exact fun _ => rfl
        intro c
        refine ⟨_, (by repeat constructor), ?_⟩
        apply WE.writ
        · (focus ((repeat (first | exact Writ.nil | apply Writ.some | apply Writ.none)); done))
        repeat first
          | refine WE.next ?_ | refine WC.ret ?_
        refine WE.ret1 rfl rfl ?_
        exact ⟨rfl, rfl⟩
    · rw [aliveP_out (fun h => h4 h.2)] at hg
      subst hg
      repeat first
        | (apply WL.q; exact rfl; exact rfl; exact rfl; (first | (apply EvW.assign; exact rfl)))
        | refine WC.seq ?_ | refine WC.region ?_ | refine WL.nil ?_ | refine WE.next ?_
      repeat refine WC.seq ?_
      refine WC.keep (xs := []) (by repeat constructor) ?_
      apply WC.par _ (fun c : Ch => []) [] [] [] Try.mixed
      · (focus ((repeat (first | exact Restr.nil | (apply Restr.keep; exact rfl; exact rfl) | (apply Restr.drop; exact rfl))); done))
      · intro c; exact (by repeat constructor)
      · exact rfl
      · decide +kernel
      · decide +kernel
      · intro c
        (apply Par.quiet _ []; exact rfl; decide +kernel; exact rfl; intro R; refine ⟨_, (by repeat constructor), ?_⟩;
             (first | (apply EvW.move; exact rfl)))
        (apply Par.quiet _ []; exact rfl; decide +kernel; exact rfl; intro R; refine ⟨_, (by repeat constructor), ?_⟩;
             (first | (apply EvW.cmpT; exact rfl; exact rfl; exact rfl; omega)))
        (apply Par.quiet _ []; exact rfl; decide +kernel; exact rfl; intro R; refine ⟨_, (by repeat constructor), ?_⟩;
             (first | (apply EvW.move; exact rfl)))
        first
          | (apply Par.skip; exact rfl; decide +kernel; exact rfl)
          | (apply Par.quiet _ []; exact rfl; decide +kernel; exact rfl; intro R; refine ⟨_, (by repeat constructor), ?_⟩;
             (first | (apply EvW.move; exact rfl)))
        first
          | (apply Par.skip; exact rfl; decide +kernel; exact rfl)
          | (apply Par.quiet _ []; exact rfl; decide +kernel; exact rfl; intro R; refine ⟨_, (by repeat constructor), ?_⟩;
             (first | (apply EvW.cmpF; exact rfl; exact rfl; exact rfl; omega)))
        (apply Par.quiet _ []; exact rfl; decide +kernel; exact rfl; intro R; refine ⟨_, (by repeat constructor), ?_⟩;
             (first | (apply EvW.pickT; exact rfl; exact rfl)))
        (apply Par.quiet _ []; exact rfl; decide +kernel; exact rfl; intro R; refine ⟨_, (by repeat constructor), ?_⟩;
             (first | (apply EvW.move; exact rfl)))
        first
          | (apply Par.skip; exact rfl; decide +kernel; exact rfl)
          | (apply Par.quiet _ []; exact rfl; decide +kernel; exact rfl; intro R; refine ⟨_, (by repeat constructor), ?_⟩;
             fail)
        first
          | (apply Par.skip; exact rfl; decide +kernel; exact rfl)
          | (apply Par.quiet _ []; exact rfl; decide +kernel; exact rfl; intro R; refine ⟨_, (by repeat constructor), ?_⟩;
             fail)
        first
          | (apply Par.skip; exact rfl; decide +kernel; exact rfl)
          | (apply Par.quiet _ []; exact rfl; decide +kernel; exact rfl; intro R; refine ⟨_, (by repeat constructor), ?_⟩;
             fail)
        first
          | (apply Par.skip; exact rfl; decide +kernel; exact rfl)
          | (apply Par.quiet _ []; exact rfl; decide +kernel; exact rfl; intro R; refine ⟨_, (by repeat constructor), ?_⟩;
             fail)
        first
          | (apply Par.skip; exact rfl; decide +kernel; exact rfl)
          | (apply Par.quiet _ []; exact rfl; decide +kernel; exact rfl; intro R; refine ⟨_, (by repeat constructor), ?_⟩;
             fail)
        first
          | (apply Par.skip; exact rfl; decide +kernel; exact rfl)
          | (apply Par.quiet _ []; exact rfl; decide +kernel; exact rfl; intro R; refine ⟨_, (by repeat constructor), ?_⟩;
             fail)
        first
          | (apply Par.skip; exact rfl; decide +kernel; exact rfl)
          | (apply Par.quiet _ []; exact rfl; decide +kernel; exact rfl; intro R; refine ⟨_, (by repeat constructor), ?_⟩;
             fail)
        first
          | (apply Par.skip; exact rfl; decide +kernel; exact rfl)
          | (apply Par.quiet _ []; exact rfl; decide +kernel; exact rfl; intro R; refine ⟨_, (by repeat constructor), ?_⟩;
             fail)
        (apply Par.quiet _ []; exact rfl; decide +kernel; exact rfl; intro R; refine ⟨_, (by repeat constructor), ?_⟩;
             (first | (apply EvW.pickF; exact rfl; exact rfl)))
        (apply Par.quiet _ []; exact rfl; decide +kernel; exact rfl; intro R; refine ⟨_, (by repeat constructor), ?_⟩;
             (first | (apply EvW.move; exact rfl)))
        first
          | (apply Par.skip; exact rfl; decide +kernel; exact rfl)
          | (apply Par.quiet _ []; exact rfl; decide +kernel; exact rfl; intro R; refine ⟨_, (by repeat constructor), ?_⟩;
             fail)
        first
          | (apply Par.skip; exact rfl; decide +kernel; exact rfl)
          | (apply Par.quiet _ []; exact rfl; decide +kernel; exact rfl; intro R; refine ⟨_, (by repeat constructor), ?_⟩;
             fail)
        first
          | (apply Par.skip; exact rfl; decide +kernel; exact rfl)
          | (apply Par.quiet _ []; exact rfl; decide +kernel; exact rfl; intro R; refine ⟨_, (by repeat constructor), ?_⟩;
             fail)
        first
          | (apply Par.skip; exact rfl; decide +kernel; exact rfl)
          | (apply Par.quiet _ []; exact rfl; decide +kernel; exact rfl; intro R; refine ⟨_, (by repeat constructor), ?_⟩;
             fail)
        first
          | (apply Par.skip; exact rfl; decide +kernel; exact rfl)
          | (apply Par.quiet _ []; exact rfl; decide +kernel; exact rfl; intro R; refine ⟨_, (by repeat constructor), ?_⟩;
             fail)
        first
          | (apply Par.skip; exact rfl; decide +kernel; exact rfl)
          | (apply Par.quiet _ []; exact rfl; decide +kernel; exact rfl; intro R; refine ⟨_, (by repeat constructor), ?_⟩;
             fail)
        first
          | (apply Par.skip; exact rfl; decide +kernel; exact rfl)
          | (apply Par.quiet _ []; exact rfl; decide +kernel; exact rfl; intro R; refine ⟨_, (by repeat constructor), ?_⟩;
             fail)
        first
          | (apply Par.skip; exact rfl; decide +kernel; exact rfl)
          | (apply Par.quiet _ []; exact rfl; decide +kernel; exact rfl; intro R; refine ⟨_, (by repeat constructor), ?_⟩;
             fail)
        first
          | (apply Par.skip; exact rfl; decide +kernel; exact rfl)
          | (apply Par.quiet _ []; exact rfl; decide +kernel; exact rfl; intro R; refine ⟨_, (by repeat constructor), ?_⟩;
             fail)
        (apply Par.quiet _ []; exact rfl; decide +kernel; exact rfl; intro R; refine ⟨_, (by repeat constructor), ?_⟩;
             (first | (apply EvW.pickF; exact rfl; exact rfl)))
        (apply Par.quiet _ []; exact rfl; decide +kernel; exact rfl; intro R; refine ⟨_, (by repeat constructor), ?_⟩;
             (first | (apply EvW.move; exact rfl)))
        first
          | (apply Par.skip; exact rfl; decide +kernel; exact rfl)
          | (apply Par.quiet _ []; exact rfl; decide +kernel; exact rfl; intro R; refine ⟨_, (by repeat constructor), ?_⟩;
             fail)
        first
          | (apply Par.skip; exact rfl; decide +kernel; exact rfl)
          | (apply Par.quiet _ []; exact rfl; decide +kernel; exact rfl; intro R; refine ⟨_, (by repeat constructor), ?_⟩;
             fail)
        first
          | (apply Par.skip; exact rfl; decide +kernel; exact rfl)
          | (apply Par.quiet _ []; exact rfl; decide +kernel; exact rfl; intro R; refine ⟨_, (by repeat constructor), ?_⟩;
             fail)
        first
          | (apply Par.skip; exact rfl; decide +kernel; exact rfl)
          | (apply Par.quiet _ []; exact rfl; decide +kernel; exact rfl; intro R; refine ⟨_, (by repeat constructor), ?_⟩;
             fail)
        first
          | (apply Par.skip; exact rfl; decide +kernel; exact rfl)
          | (apply Par.quiet _ []; exact rfl; decide +kernel; exact rfl; intro R; refine ⟨_, (by repeat constructor), ?_⟩;
             fail)
        first
          | (apply Par.skip; exact rfl; decide +kernel; exact rfl)
          | (apply Par.quiet _ []; exact rfl; decide +kernel; exact rfl; intro R; refine ⟨_, (by repeat constructor), ?_⟩;
             fail)
        first
          | (apply Par.skip; exact rfl; decide +kernel; exact rfl)
          | (apply Par.quiet _ []; exact rfl; decide +kernel; exact rfl; intro R; refine ⟨_, (by repeat constructor), ?_⟩;
             fail)
        first
          | (apply Par.skip; exact rfl; decide +kernel; exact rfl)
          | (apply Par.quiet _ []; exact rfl; decide +kernel; exact rfl; intro R; refine ⟨_, (by repeat constructor), ?_⟩;
             fail)
        first
          | (apply Par.skip; exact rfl; decide +kernel; exact rfl)
          | (apply Par.quiet _ []; exact rfl; decide +kernel; exact rfl; intro R; refine ⟨_, (by repeat constructor), ?_⟩;
             fail)
        first
          | (apply Par.skip; exact rfl; decide +kernel; exact rfl)
          | (apply Par.quiet _ []; exact rfl; decide +kernel; exact rfl; intro R; refine ⟨_, (by repeat constructor), ?_⟩;
             fail)
        first
          | (apply Par.skip; exact rfl; decide +kernel; exact rfl)
          | (apply Par.quiet _ []; exact rfl; decide +kernel; exact rfl; intro R; refine ⟨_, (by repeat constructor), ?_⟩;
             fail)
        first
          | (apply Par.skip; exact rfl; decide +kernel; exact rfl)
          | (apply Par.quiet _ []; exact rfl; decide +kernel; exact rfl; intro R; refine ⟨_, (by repeat constructor), ?_⟩;
             fail)
        first
          | (apply Par.skip; exact rfl; decide +kernel; exact rfl)
          | (apply Par.quiet _ []; exact rfl; decide +kernel; exact rfl; intro R; refine ⟨_, (by repeat constructor), ?_⟩;
             fail)
        first
          | (apply Par.skip; exact rfl; decide +kernel; exact rfl)
          | (apply Par.quiet _ []; exact rfl; decide +kernel; exact rfl; intro R; refine ⟨_, (by repeat constructor), ?_⟩;
             fail)
        first
          | (apply Par.skip; exact rfl; decide +kernel; exact rfl)
          | (apply Par.quiet _ []; exact rfl; decide +kernel; exact rfl; intro R; refine ⟨_, (by repeat constructor), ?_⟩;
             fail)
        first
          | (apply Par.skip; exact rfl; decide +kernel; exact rfl)
          | (apply Par.quiet _ []; exact rfl; decide +kernel; exact rfl; intro R; refine ⟨_, (by repeat constructor), ?_⟩;
             fail)
        (apply Par.quiet _ []; exact rfl; decide +kernel; exact rfl; intro R; refine ⟨_, (by repeat constructor), ?_⟩;
             (first | (apply EvW.pickF; exact rfl; exact rfl)))
        (apply Par.quiet _ []; exact rfl; decide +kernel; exact rfl; intro R; refine ⟨_, (by repeat constructor), ?_⟩;
             (first | (apply EvW.assign; exact rfl)))
        exact Par.nil
      · repeat (first | exact AllN.nil | (apply AllN.cons; (intro c x; (repeat (first | exact IndA.nil | (apply IndA.skip; decide +kernel) | apply IndA.same))))) 
      · repeat (first | exact AllN.nil | (apply AllN.cons; (intro c x; (repeat (first | exact IndT.nil | (apply IndT.skip; decide +kernel) | apply IndT.same))))) 
      · exact fun _ => rfl
      intro c
      refine ⟨_, (by repeat constructor), ?_⟩
      apply WE.writ
      · (focus ((repeat (first | exact Writ.nil | apply Writ.some | apply Writ.none)); done))
      repeat first
        | refine WE.next ?_ | refine WC.ret ?_
      refine WE.ret1 rfl rfl ?_
      exact ⟨rfl, rfl⟩
  · rw [aliveP_out (fun h => h0 h.1)] at hg
    subst hg
    repeat first
      | (apply WL.q; exact rfl; exact rfl; exact rfl; (first | (apply EvW.assign; exact rfl)))
      | refine WC.seq ?_ | refine WC.region ?_ | refine WL.nil ?_ | refine WE.next ?_
    repeat refine WC.seq ?_
    refine WC.keep (xs := []) (by repeat constructor) ?_
    apply WC.par _ (fun c : Ch => []) [] [] [] Try.mixed
    · (focus ((repeat (first | exact Restr.nil | (apply Restr.keep; exact rfl; exact rfl) | (apply Restr.drop; exact rfl))); done))
    · intro c; exact (by repeat constructor)
    · exact rfl
    · decide +kernel
    · decide +kernel
    · intro c
      (apply Par.quiet _ []; exact rfl; decide +kernel; exact rfl; intro R; refine ⟨_, (by repeat constructor), ?_⟩;
           (first | (apply EvW.move; exact rfl)))
      (apply Par.quiet _ []; exact rfl; decide +kernel; exact rfl; intro R; refine ⟨_, (by repeat constructor), ?_⟩;
           (first | (apply EvW.cmpF; exact rfl; exact rfl; exact rfl; omega)))
      (apply Par.quiet _ []; exact rfl; decide +kernel; exact rfl; intro R; refine ⟨_, (by repeat constructor), ?_⟩;
           (first | (apply EvW.move; exact rfl)))
      first
        | (apply Par.skip; exact rfl; decide +kernel; exact rfl)
        | (apply Par.quiet _ []; exact rfl; decide +kernel; exact rfl; intro R; refine ⟨_, (by repeat constructor), ?_⟩;
           fail)
      first
        | (apply Par.skip; exact rfl; decide +kernel; exact rfl)
        | (apply Par.quiet _ []; exact rfl; decide +kernel; exact rfl; intro R; refine ⟨_, (by repeat constructor), ?_⟩;
           fail)
      (apply Par.quiet _ []; exact rfl; decide +kernel; exact rfl; intro R; refine ⟨_, (by repeat constructor), ?_⟩;
           (first | (apply EvW.pickF; exact rfl; exact rfl)))
      (apply Par.quiet _ []; exact rfl; decide +kernel; exact rfl; intro R; refine ⟨_, (by repeat constructor), ?_⟩;
           (first | (apply EvW.move; exact rfl)))
      first
        | (apply Par.skip; exact rfl; decide +kernel; exact rfl)
        | (apply Par.quiet _ []; exact rfl; decide +kernel; exact rfl; intro R; refine ⟨_, (by repeat constructor), ?_⟩;
           fail)
      first
        | (apply Par.skip; exact rfl; decide +kernel; exact rfl)
        | (apply Par.quiet _ []; exact rfl; decide +kernel; exact rfl; intro R; refine ⟨_, (by repeat constructor), ?_⟩;
           fail)
      first
        | (apply Par.skip; exact rfl; decide +kernel; exact rfl)
        | (apply Par.quiet _ []; exact rfl; decide +kernel; exact rfl; intro R; refine ⟨_, (by repeat constructor), ?_⟩;
           fail)
      first
        | (apply Par.skip; exact rfl; decide +kernel; exact rfl)
        | (apply Par.quiet _ []; exact rfl; decide +kernel; exact rfl; intro R; refine ⟨_, (by repeat constructor), ?_⟩;
           fail)
      first
        | (apply Par.skip; exact rfl; decide +kernel; exact rfl)
        | (apply Par.quiet _ []; exact rfl; decide +kernel; exact rfl; intro R; refine ⟨_, (by repeat constructor), ?_⟩;
           fail)
      first
        | (apply Par.skip; exact rfl; decide +kernel; exact rfl)
        | (apply Par.quiet _ []; exact rfl; decide +kernel; exact rfl; intro R; refine ⟨_, (by repeat constructor), ?_⟩;
           fail)
      first
        | (apply Par.skip; exact rfl; decide +kernel; exact rfl)
        | (apply Par.quiet _ []; exact rfl; decide +kernel; exact rfl; intro R; refine ⟨_, (by repeat constructor), ?_⟩;
           fail)
      first
        | (apply Par.skip; exact rfl; decide +kernel; exact rfl)
        | (apply Par.quiet _ []; exact rfl; decide +kernel; exact rfl; intro R; refine ⟨_, (by repeat constructor), ?_⟩;
           fail)
      (apply Par.quiet _ []; exact rfl; decide +kernel; exact rfl; intro R; refine ⟨_, (by repeat constructor), ?_⟩;
           (first | (apply EvW.pickF; exact rfl; exact rfl)))
      (apply Par.quiet _ []; exact rfl; decide +kernel; exact rfl; intro R; refine ⟨_, (by repeat constructor), ?_⟩;
           (first | (apply EvW.move; exact rfl)))
      first
        | (apply Par.skip; exact rfl; decide +kernel; exact rfl)
        | (apply Par.quiet _ []; exact rfl; decide +kernel; exact rfl; intro R; refine ⟨_, (by repeat constructor), ?_⟩;
           fail)
      first
        | (apply Par.skip; exact rfl; decide +kernel; exact rfl)
        | (apply Par.quiet _ []; exact rfl; decide +kernel; exact rfl; intro R; refine ⟨_, (by repeat constructor), ?_⟩;
           fail)
      first
        | (apply Par.skip; exact rfl; decide +kernel; exact rfl)
        | (apply Par.quiet _ []; exact rfl; decide +kernel; exact rfl; intro R; refine ⟨_, (by repeat constructor), ?_⟩;
           fail)
      first
        | (apply Par.skip; exact rfl; decide +kernel; exact rfl)
        | (apply Par.quiet _ []; exact rfl; decide +kernel; exact rfl; intro R; refine ⟨_, (by repeat constructor), ?_⟩;
           fail)
      first
        | (apply Par.skip; exact rfl; decide +kernel; exact rfl)
        | (apply Par.quiet _ []; exact rfl; decide +kernel; exact rfl; intro R; refine ⟨_, (by repeat constructor), ?_⟩;
           fail)
      first
        | (apply Par.skip; exact rfl; decide +kernel; exact rfl)
        | (apply Par.quiet _ []; exact rfl; decide +kernel; exact rfl; intro R; refine ⟨_, (by repeat constructor), ?_⟩;
           fail)
      first
        | (apply Par.skip; exact rfl; decide +kernel; exact rfl)
        | (apply Par.quiet _ []; exact rfl; decide +kernel; exact rfl; intro R; refine ⟨_, (by repeat constructor), ?_⟩;
           fail)
      first
        | (apply Par.skip; exact rfl; decide +kernel; exact rfl)
        | (apply Par.quiet _ []; exact rfl; decide +kernel; exact rfl; intro R; refine ⟨_, (by repeat constructor), ?_⟩;
           fail)
      first
        | (apply Par.skip; exact rfl; decide +kernel; exact rfl)
        | (apply Par.quiet _ []; exact rfl; decide +kernel; exact rfl; intro R; refine ⟨_, (by repeat constructor), ?_⟩;
           fail)
      (apply Par.quiet _ []; exact rfl; decide +kernel; exact rfl; intro R; refine ⟨_, (by repeat constructor), ?_⟩;
           (first | (apply EvW.pickF; exact rfl; exact rfl)))
      (apply Par.quiet _ []; exact rfl; decide +kernel; exact rfl; intro R; refine ⟨_, (by repeat constructor), ?_⟩;
           (first | (apply EvW.move; exact rfl)))
      first
        | (apply Par.skip; exact rfl; decide +kernel; exact rfl)
        | (apply Par.quiet _ []; exact rfl; decide +kernel; exact rfl; intro R; refine ⟨_, (by repeat constructor), ?_⟩;
           fail)
      first
        | (apply Par.skip; exact rfl; decide +kernel; exact rfl)
        | (apply Par.quiet _ []; exact rfl; decide +kernel; exact rfl; intro R; refine ⟨_, (by repeat constructor), ?_⟩;
           fail)
      first
        | (apply Par.skip; exact rfl; decide +kernel; exact rfl)
        | (apply Par.quiet _ []; exact rfl; decide +kernel; exact rfl; intro R; refine ⟨_, (by repeat constructor), ?_⟩;
           fail)
      first
        | (apply Par.skip; exact rfl; decide +kernel; exact rfl)
        | (apply Par.quiet _ []; exact rfl; decide +kernel; exact rfl; intro R; refine ⟨_, (by repeat constructor), ?_⟩;
           fail)
      first
        | (apply Par.skip; exact rfl; decide +kernel; exact rfl)
        | (apply Par.quiet _ []; exact rfl; decide +kernel; exact rfl; intro R; refine ⟨_, (by repeat constructor), ?_⟩;
           fail)
      first
        | (apply Par.skip; exact rfl; decide +kernel; exact rfl)
        | (apply Par.quiet _ []; exact rfl; decide +kernel; exact rfl; intro R; refine ⟨_, (by repeat constructor), ?_⟩;
           fail)
      first
        | (apply Par.skip; exact rfl; decide +kernel; exact rfl)
        | (apply Par.quiet _ []; exact rfl; decide +kernel; exact rfl; intro R; refine ⟨_, (by repeat constructor), ?_⟩;
           fail)
      first
        | (apply Par.skip; exact rfl; decide +kernel; exact rfl)
        | (apply Par.quiet _ []; exact rfl; decide +kernel; exact rfl; intro R; refine ⟨_, (by repeat constructor), ?_⟩;
           fail)
      first
        | (apply Par.skip; exact rfl; decide +kernel; exact rfl)
        | (apply Par.quiet _ []; exact rfl; decide +kernel; exact rfl; intro R; refine ⟨_, (by repeat constructor), ?_⟩;
           fail)
      first
        | (apply Par.skip; exact rfl; decide +kernel; exact rfl)
        | (apply Par.quiet _ []; exact rfl; decide +kernel; exact rfl; intro R; refine ⟨_, (by repeat constructor), ?_⟩;
           fail)
      first
        | (apply Par.skip; exact rfl; decide +kernel; exact rfl)
        | (apply Par.quiet _ []; exact rfl; decide +kernel; exact rfl; intro R; refine ⟨_, (by repeat constructor), ?_⟩;
           fail)
      first
        | (apply Par.skip; exact rfl; decide +kernel; exact rfl)
        | (apply Par.quiet _ []; exact rfl; decide +kernel; exact rfl; intro R; refine ⟨_, (by repeat constructor), ?_⟩;
           fail)
      first
        | (apply Par.skip; exact rfl; decide +kernel; exact rfl)
        | (apply Par.quiet _ []; exact rfl; decide +kernel; exact rfl; intro R; refine ⟨_, (by repeat constructor), ?_⟩;
           fail)
      first
        | (apply Par.skip; exact rfl; decide +kernel; exact rfl)
        | (apply Par.quiet _ []; exact rfl; decide +kernel; exact rfl; intro R; refine ⟨_, (by repeat constructor), ?_⟩;
           fail)
      first
        | (apply Par.skip; exact rfl; decide +kernel; exact rfl)
        | (apply Par.quiet _ []; exact rfl; decide +kernel; exact rfl; intro R; refine ⟨_, (by repeat constructor), ?_⟩;
           fail)
      first
        | (apply Par.skip; exact rfl; decide +kernel; exact rfl)
        | (apply Par.quiet _ []; exact rfl; decide +kernel; exact rfl; intro R; refine ⟨_, (by repeat constructor), ?_⟩;
           fail)
      (apply Par.quiet _ []; exact rfl; decide +kernel; exact rfl; intro R; refine ⟨_, (by repeat constructor), ?_⟩;
           (first | (apply EvW.pickF; exact rfl; exact rfl)))
      (apply Par.quiet _ []; exact rfl; decide +kernel; exact rfl; intro R; refine ⟨_, (by repeat constructor), ?_⟩;
           (first | (apply EvW.assign; exact rfl)))
      exact Par.nil
    · repeat (first | exact AllN.nil | (apply AllN.cons; (intro c x; (repeat (first | exact IndA.nil | (apply IndA.skip; decide +kernel) | apply IndA.same))))) 
    · repeat (first | exact AllN.nil | (apply AllN.cons; (intro c x; (repeat (first | exact IndT.nil | (apply IndT.skip; decide +kernel) | apply IndT.same))))) 
    · exact fun _ => rfl
    intro c
    refine ⟨_, (by repeat constructor), ?_⟩
    apply WE.writ
    · (focus ((repeat (first | exact Writ.nil | apply Writ.some | apply Writ.none)); done))
    repeat first
      | refine WE.next ?_ | refine WC.ret ?_
    refine WE.ret1 rfl rfl ?_
    exact ⟨rfl, rfl⟩
theorem at_spec (xs : List Int) (v : Value) (x : Int) (w : World) (S : BSet) (hS : (sepL []).sat S w) (hv : Sees w S (.row 1 v xs.length (xs.map i64))) (hn : xs.length ≤ 17592186044416) :
    Tri Try.prog 53 #[v, i64 x] w S fun u A => u = i64 (atF xs x) ∧ A = [] := by
  refine Tri.enter (l := [v, i64 x]) Try.func53 rfl Try.ntmps53 rfl [(0, v), (1, i64 x)] (subA rfl) hS ?_
  repeat first
    | (apply WL.q; exact rfl; exact rfl; exact rfl; (first | (apply EvW.move; exact rfl) | (apply EvW.assign; exact rfl) | (apply EvW.lenRow; exact rfl; exact UndC.eq; assumption)))
    | refine WC.seq ?_ | refine WC.region ?_ | refine WL.nil ?_ | refine WE.next ?_ | refine WC.block ?_
  refine WC.loopK (σ := Nat) [1, 7, 8] (fun s => [(9, i64 s)]) (fun s => []) (fun s => s ≤ xs.length ∧ ∀ j, j < s → xs.getD j 0 ≠ x) (fun s => xs.length - s) 0 (by (focus ((repeat (first | exact Pick.nil | (apply Pick.cons; exact rfl))); done))) (by (focus ((repeat (first | exact trivial | (refine ⟨rfl, ?_⟩))); done))) (fun _ h => h.keep (by repeat constructor)) ⟨Nat.zero_le _, fun j hj => absurd hj (Nat.not_lt_zero j)⟩ (fun s hs => ?_)
  obtain ⟨i, rfl⟩ : ∃ q, q = s := ⟨s, rfl⟩
  simp only [List.cons_append, List.nil_append] at hs ⊢
  by_cases hlt : (i : Int) < xs.length
  · have hin : (((i : Nat) : Int)).toNat = i := Int.toNat_natCast i
    by_cases he : xs.getD ((i : Nat) : Int).toNat 0 = x
    · have hat := atF_at (x := x) (xs := xs) (i := i) (by omega) hs.2 he
      repeat first
        | (apply WL.q; exact rfl; exact rfl; exact rfl; (first | (apply EvW.move; exact rfl) | (apply EvW.assign; exact rfl) | (apply EvW.cmpT; exact rfl; exact rfl; exact rfl; omega) | (apply EvW.idxRow; exact rfl; exact rfl; exact UndC.eq; exact SzC.eq; assumption; omega; omega) | (apply EvW.ldInt; exact rfl; exact ScalC.eq; assumption; omega)))
        | refine WC.seq ?_ | refine WC.region ?_ | refine WL.nil ?_ | refine WE.next ?_ | refine WC.block ?_ | refine WC.skip ?_ | refine WC.condT rfl ?_ | refine WC.ret ?_ | refine WE.passRet ?_ | refine WE.outRet ?_
      refine WE.bare ?_
      refine WE.ret1 rfl rfl ?_
      exact ⟨by rw [hat], rfl⟩
    · repeat first
        | (apply WL.q; exact rfl; exact rfl; exact rfl; (first | (apply EvW.move; exact rfl) | (apply EvW.assign; exact rfl) | (apply EvW.cmpT; exact rfl; exact rfl; exact rfl; omega) | (apply EvW.cmpF; exact rfl; exact rfl; exact rfl; omega) | (apply EvW.arN; exact rfl; exact rfl; exact rfl; refine i64_in ?_ ?_ <;> omega) | (apply EvW.idxRow; exact rfl; exact rfl; exact UndC.eq; exact SzC.eq; assumption; omega; omega) | (apply EvW.ldInt; exact rfl; exact ScalC.eq; assumption; omega)))
        | refine WC.seq ?_ | refine WC.region ?_ | refine WL.nil ?_ | refine WE.next ?_ | refine WC.block ?_ | refine WC.skip ?_ | refine WE.out ?_ | refine WC.condT rfl ?_ | refine WC.condF rfl ?_
      exact WE.again (s := i) ((i + 1)) ⟨by omega, upto_stepI hs.2 (by rw [← hin]; exact he)⟩ (by (focus ((repeat (first | exact trivial | (refine ⟨rfl, ?_⟩))); done))) (fun _ h => (by (try simp only []); exact h.keep (by repeat constructor))) (by (try simp only []); omega)
  · have hat := atF_none x xs (fun j hj => hs.2 j (by omega))
    repeat first
      | (apply WL.q; exact rfl; exact rfl; exact rfl; (first | (apply EvW.assign; exact rfl) | (apply EvW.cmpF; exact rfl; exact rfl; exact rfl; omega)))
      | refine WC.seq ?_ | refine WC.region ?_ | refine WL.nil ?_ | refine WE.next ?_ | refine WC.exit ?_ | refine WE.pass ?_ | refine WE.hit ?_ | refine WC.condF rfl ?_ | refine WC.ret ?_
    refine WE.bare ?_
    refine WE.ret1 rfl rfl ?_
    exact ⟨by rw [hat], rfl⟩
theorem oc_spec (x : RImg) (c : Cfg) (s : Int) (w : World) (S : BSet) (hS : (sepL []).sat S w) (hx : x.Seen c w S) :
    Tri Try.prog 54 #[ptr x.b 0, i64 s] w S fun u A => u = i64 (ocOf c s) ∧ A = [] := by
  refine Tri.enter (l := [ptr x.b 0, i64 s]) Try.func54 rfl Try.ntmps54 rfl [(0, ptr x.b 0), (1, i64 s)] (subA rfl) hS ?_
  have hB := hx.blk
  have hsec := hx.c.secs
  by_cases h0 : 0 ≤ s
  · by_cases h1 : s < c.secs.length
    · rw [ocOf_in h0 h1]
      repeat first
        | (apply WL.q; exact rfl; exact rfl; exact rfl; (first | (apply EvW.move; exact rfl) | (apply EvW.assign; exact rfl) | (apply EvW.nilPtr; exact rfl) | (apply EvW.fieldAddr0; exact rfl; exact FldC.eq) | (apply EvW.ldSeen; exact rfl; exact ScalC.eq; assumption; (first | exact rfl | assumption)) | (apply EvW.ldFld; exact rfl; exact ScalC.eq; assumption; exact fun _ => rfl; omega; exact rfl; exact inferInstance) | (apply EvW.cmpF; exact rfl; exact rfl; exact rfl; omega) | (apply EvW.pickF; exact rfl; exact rfl) | (apply EvW.lenRow; exact rfl; exact UndC.eq; assumption) | (apply EvW.idxRow; exact rfl; exact rfl; exact UndC.eq; exact SzC.eq; assumption; omega; omega) | (apply EvW.fldRow; exact rfl; exact FldC.eq; assumption; omega)))
        | refine WC.seq ?_ | refine WC.region ?_ | refine WL.nil ?_ | refine WE.next ?_ | refine WC.skip ?_ | refine WC.condF rfl ?_ | refine WC.ret ?_ | refine WL.wanted rfl rfl rfl ?_
      refine WE.ret1 rfl rfl ?_
      exact ⟨rfl, rfl⟩
    · rw [ocOf_out (fun h => h1 h.2)]
      repeat first
        | (apply WL.q; exact rfl; exact rfl; exact rfl; (first | (apply EvW.move; exact rfl) | (apply EvW.assign; exact rfl) | (apply EvW.nilPtr; exact rfl) | (apply EvW.fieldAddr0; exact rfl; exact FldC.eq) | (apply EvW.ldSeen; exact rfl; exact ScalC.eq; assumption; (first | exact rfl | assumption)) | (apply EvW.cmpT; exact rfl; exact rfl; exact rfl; omega) | (apply EvW.cmpF; exact rfl; exact rfl; exact rfl; omega) | (apply EvW.pickF; exact rfl; exact rfl) | (apply EvW.lenRow; exact rfl; exact UndC.eq; assumption)))
        | refine WC.seq ?_ | refine WC.region ?_ | refine WL.nil ?_ | refine WE.next ?_ | refine WC.condT rfl ?_ | refine WC.ret ?_ | refine WE.passRet ?_ | refine WL.wanted rfl rfl rfl ?_
      refine WE.ret1 rfl rfl ?_
      exact ⟨rfl, rfl⟩
  · rw [ocOf_out (fun h => h0 h.1)]
    repeat first
      | (apply WL.q; exact rfl; exact rfl; exact rfl; (first | (apply EvW.move; exact rfl) | (apply EvW.assign; exact rfl) | (apply EvW.cmpT; exact rfl; exact rfl; exact rfl; omega) | (apply EvW.pickT; exact rfl; exact rfl)))
      | refine WC.seq ?_ | refine WC.region ?_ | refine WL.nil ?_ | refine WE.next ?_ | refine WC.condT rfl ?_ | refine WC.ret ?_ | refine WE.passRet ?_ | refine WL.unwanted rfl rfl rfl rfl ?_
    refine WE.ret1 rfl rfl ?_
    exact ⟨rfl, rfl⟩
theorem lookP_far {al : Bool} {i : Int} {said : List Int} {st worst : Int} (h : ¬ i < said.length) : lookP al i said st worst = (worst, -1, false) := by unfold lookP; rw [if_neg (fun k => h k.2.2)]
theorem rlook_spec (x : RImg) (c : Cfg) (now oc i worst : Int) (lv : Value) (l : List Int) (r : Int × Int × Bool) (w : World) (S : BSet) (hS : (sepL []).sat S w) (hx : x.Seen c w S) (hw : now ≤ 9223372036854775807) (hl : Sees w S (.row 1 lv l.length (l.map i64))) (hr : lookP (aliveP x.st now c.age oc) i l (x.st oc) worst = r) :
    Tri Try.prog 52 #[ptr x.b 0, i64 now, i64 oc, i64 i, lv, i64 worst] w S fun u A => u = .agg #[i64 (r).1, i64 (r).2.1, .bool (r).2.2] ∧ A = [] := by
  refine Tri.enter (l := [ptr x.b 0, i64 now, i64 oc, i64 i, lv, i64 worst]) Try.func52 rfl Try.ntmps52 rfl [(0, ptr x.b 0), (1, i64 now), (2, i64 oc), (3, i64 i), (4, lv), (5, i64 worst)] (subA rfl) hS ?_
  subst hr
  have hB := hx.blk
  have hV := hx.tv
  obtain ⟨g, hg⟩ : ∃ g, aliveP x.st now c.age oc = g := ⟨_, rfl⟩
  rw [hg]
  repeat first
    | refine WC.seq ?_ | refine WC.region ?_
  try refine WL.wanted rfl rfl rfl ?_
  (apply WL.alloc; exact rfl; exact ZvC.eq; exact rfl; intro q)
  by_cases h0 : 0 ≤ i
  rotate_left
  · rw [lookP_none (by omega)]
    repeat first
      | (apply WL.q; exact rfl; exact rfl; exact rfl; (first | (apply EvW.move; exact rfl) | (apply EvW.cmpT; exact rfl; exact rfl; exact rfl; omega) | (apply EvW.pickT; exact rfl; exact rfl) | (apply EvW.build; exact PlC.eq; exact ZvC.eq; exact rfl; exact rfl; (focus ((repeat (first | exact Fills.nil | (apply Fills.cons; exact rfl; (first | assumption | exact rfl); exact rfl) | exact SetMany.nil | apply SetMany.cons | apply SetMany.succ)); done)))))
      | refine WC.seq ?_ | refine WC.region ?_ | refine WL.nil ?_ | refine WE.next ?_ | refine WC.condT rfl ?_ | refine WC.ret ?_ | refine WE.passRet ?_ | refine WL.unwanted rfl rfl rfl rfl ?_ | (apply WL.store; exact rfl; exact rfl; (first | assumption | exact rfl); exact SzC.eq; (first | assumption | exact rfl); (focus ((repeat constructor); done)))
    (apply WE.retC (A' := []); exact rfl; exact rfl; (focus ((repeat constructor); done)); exact AggC.eq; exact SzC.eq; exact fun _ h => h.keep (by repeat constructor))
    exact ⟨rfl, rfl⟩
  by_cases h1 : i < l.length
  rotate_left
  · rw [lookP_far h1]
    repeat first
      | (apply WL.q; exact rfl; exact rfl; exact rfl; (first | (apply EvW.move; exact rfl) | (apply EvW.cmpT; exact rfl; exact rfl; exact rfl; omega) | (apply EvW.cmpF; exact rfl; exact rfl; exact rfl; omega) | (apply EvW.pickT; exact rfl; exact rfl) | (apply EvW.pickF; exact rfl; exact rfl) | (apply EvW.build; exact PlC.eq; exact ZvC.eq; exact rfl; exact rfl; (focus ((repeat (first | exact Fills.nil | (apply Fills.cons; exact rfl; (first | assumption | exact rfl); exact rfl) | exact SetMany.nil | apply SetMany.cons | apply SetMany.succ)); done))) | (apply EvW.lenRow; exact rfl; exact UndC.eq; assumption)))
      | refine WC.seq ?_ | refine WC.region ?_ | refine WL.nil ?_ | refine WE.next ?_ | refine WC.condT rfl ?_ | refine WC.ret ?_ | refine WE.passRet ?_ | refine WL.wanted rfl rfl rfl ?_ | refine WL.unwanted rfl rfl rfl rfl ?_ | (apply WL.store; exact rfl; exact rfl; (first | assumption | exact rfl); exact SzC.eq; (first | assumption | exact rfl); (focus ((repeat constructor); done)))
    (apply WE.retC (A' := []); exact rfl; exact rfl; (focus ((repeat constructor); done)); exact AggC.eq; exact SzC.eq; exact fun _ h => h.keep (by repeat constructor))
    exact ⟨rfl, rfl⟩
  repeat first
    | (apply WL.q; exact rfl; exact rfl; exact rfl; (first | (apply EvW.move; exact rfl) | (apply EvW.cmpF; exact rfl; exact rfl; exact rfl; omega) | (apply EvW.pickF; exact rfl; exact rfl) | (apply EvW.lenRow; exact rfl; exact UndC.eq; assumption)))
    | refine WC.seq ?_ | refine WC.region ?_ | refine WL.nil ?_ | refine WE.next ?_ | refine WL.wanted rfl rfl rfl ?_
  try refine WL.wanted rfl rfl rfl ?_
  apply WL.callA ([])
  · exact rfl
  · exact rfl
  · exact fun w => Try.call18 _ w
  · (focus ((repeat constructor); done))
  · exact fun w1 S1 hS1 hs1 ho1 => raliveI_spec x c now oc g w1 S1 hS1 (hx.down hs1) hw hg
  rintro _ _ ⟨rfl, rfl⟩
  first | refine WL.app4 ?_ | refine WL.app3 ?_ | refine WL.app2 ?_ | refine WL.app1 ?_ | refine WL.app0 ?_ | skip
  cases g with
  | false =>
    rw [lookP_dead]
    repeat first
      | (apply WL.q; exact rfl; exact rfl; exact rfl; (first | (apply EvW.move; exact rfl) | (apply EvW.pickF; exact rfl; exact rfl) | (apply EvW.notF; exact rfl) | (apply EvW.build; exact PlC.eq; exact ZvC.eq; exact rfl; exact rfl; (focus ((repeat (first | exact Fills.nil | (apply Fills.cons; exact rfl; (first | assumption | exact rfl); exact rfl) | exact SetMany.nil | apply SetMany.cons | apply SetMany.succ)); done)))))
      | refine WC.seq ?_ | refine WC.region ?_ | refine WL.nil ?_ | refine WE.next ?_ | refine WC.condT rfl ?_ | refine WC.ret ?_ | refine WE.passRet ?_ | refine WL.wanted rfl rfl rfl ?_ | (apply WL.store; exact rfl; exact rfl; (first | assumption | exact rfl); exact SzC.eq; (first | assumption | exact rfl); (focus ((repeat constructor); done)))
    (apply WE.retC (A' := []); exact rfl; exact rfl; (focus ((repeat constructor); done)); exact AggC.eq; exact SzC.eq; exact fun _ h => h.keep (by repeat constructor))
    exact ⟨rfl, rfl⟩
  | true =>
    have hin : 0 ≤ oc ∧ oc < 4 := by
      by_cases h : 0 ≤ oc ∧ oc < 4
      · exact h
      · rw [aliveP_out h] at hg; cases hg
    have hlen : x.sts.length = 4 := by rw [x.sts_len, hx.len]
    have hse : x.sts.getD oc.toNat 0 = x.st oc := RImg.sts_at (by rw [hx.len]; omega)
    rw [lookP_some h0 h1, ← hse]
    repeat first
      | (apply WL.q; exact rfl; exact rfl; exact rfl; (first | (apply EvW.pickF; exact rfl; exact rfl) | (apply EvW.notT; exact rfl)))
      | refine WC.seq ?_ | refine WL.nil ?_ | refine WE.next ?_ | refine WC.skip ?_ | refine WC.condF rfl ?_ | refine WL.wanted rfl rfl rfl ?_
    repeat refine WC.seq ?_
    refine WC.keep (xs := [.blk q #[i64 0, i64 0, .bool false] 44]) (by repeat constructor) ?_
    apply WC.par _ (fun c : Ch => [.blk q #[i64 0, i64 0, .bool false] 44, .blk q #[i64 (l.getD i.toNat 0), i64 (x.sts.getD oc.toNat 0), .bool true] 44]) [none, some 12] [some 12, none] [] Try.mixed
    · (focus ((repeat (first | exact Restr.nil | (apply Restr.keep; exact rfl; exact rfl) | (apply Restr.drop; exact rfl))); done))
    · intro c; exact (by repeat constructor)
    · exact rfl
    · decide +kernel
    · decide +kernel
    · intro c
      (apply Par.quiet _ [true, false]; exact rfl; decide +kernel; exact rfl; intro R; refine ⟨_, (by repeat constructor), ?_⟩;
           (first | (apply EvW.move; exact rfl)))
      (apply Par.quiet _ [true, false]; exact rfl; decide +kernel; exact rfl; intro R; refine ⟨_, (by repeat constructor), ?_⟩;
           (first | (apply EvW.move; exact rfl)))
      (apply Par.quiet _ [true, false]; exact rfl; decide +kernel; exact rfl; intro R; refine ⟨_, (by repeat constructor), ?_⟩;
           (first | (apply EvW.idxRow; exact rfl; exact rfl; exact UndC.eq; exact SzC.eq; assumption; omega; omega)))
      (apply Par.quiet _ [true, false]; exact rfl; decide +kernel; exact rfl; intro R; refine ⟨_, (by repeat constructor), ?_⟩;
           (first | (apply EvW.ldInt; exact rfl; exact ScalC.eq; assumption; omega)))
      (apply Par.quiet _ [true, false]; exact rfl; decide +kernel; exact rfl; intro R; refine ⟨_, (by repeat constructor), ?_⟩;
           (first | (apply EvW.move; exact rfl)))
      (apply Par.quiet _ [true, false]; exact rfl; decide +kernel; exact rfl; intro R; refine ⟨_, (by repeat constructor), ?_⟩;
           (first | (apply EvW.nilPtr; exact rfl)))
      (apply Par.quiet _ [true, false]; exact rfl; decide +kernel; exact rfl; intro R; refine ⟨_, (by repeat constructor), ?_⟩;
           (first | (apply EvW.fieldAddr0; exact rfl; exact FldC.eq)))
      (apply Par.quiet _ [true, false]; exact rfl; decide +kernel; exact rfl; intro R; refine ⟨_, (by repeat constructor), ?_⟩;
           (first | (apply EvW.ldSeen; exact rfl; exact ScalC.eq; assumption; (first | exact rfl | assumption))))
      (apply Par.quiet _ [true, false]; exact rfl; decide +kernel; exact rfl; intro R; refine ⟨_, (by repeat constructor), ?_⟩;
           (first | (apply EvW.move; exact rfl)))
      (apply Par.quiet _ [true, false]; exact rfl; decide +kernel; exact rfl; intro R; refine ⟨_, (by repeat constructor), ?_⟩;
           (first | (apply EvW.idxRow; exact rfl; exact rfl; exact UndC.eq; exact SzC.eq; assumption; omega; omega)))
      (apply Par.quiet _ [true, false]; exact rfl; decide +kernel; exact rfl; intro R; refine ⟨_, (by repeat constructor), ?_⟩;
           (first | (apply EvW.ldInt; exact rfl; exact ScalC.eq; assumption; omega)))
      (apply Par.quiet _ [true, false]; exact rfl; decide +kernel; exact rfl; intro R; refine ⟨_, (by repeat constructor), ?_⟩;
           (first | (apply EvW.build; exact PlC.eq; exact ZvC.eq; exact rfl; exact rfl; (focus ((repeat (first | exact Fills.nil | (apply Fills.cons; exact rfl; (first | assumption | exact rfl); exact rfl) | exact SetMany.nil | apply SetMany.cons | apply SetMany.succ)); done)))))
      (apply Par.eff _ [true, false] [false, true] [false, false]; exact rfl; exact rfl; decide +kernel; intro R; refine ⟨_, _, _, (by repeat constructor), (by repeat constructor), (by repeat constructor), ?_⟩; (apply EffW.store; exact rfl; exact rfl; (first | assumption | exact rfl); exact SzC.eq; (first | assumption | exact rfl); (focus ((repeat constructor); done))))
      exact Par.nil
    · repeat (first | exact AllN.nil | (apply AllN.cons; (intro c x; (repeat (first | exact IndA.nil | (apply IndA.skip; decide +kernel) | apply IndA.same))))) 
    · repeat (first | exact AllN.nil | (apply AllN.cons; (intro c x; (repeat (first | exact IndT.nil | (apply IndT.skip; decide +kernel) | apply IndT.same))))) 
    · exact fun _ => rfl
    intro c
    refine ⟨_, (by repeat constructor), ?_⟩
    apply WE.writ
    · (focus ((repeat (first | exact Writ.nil | apply Writ.some | apply Writ.none)); done))
    repeat first
      | refine WE.next ?_ | refine WC.ret ?_
    (apply WE.retC (A' := []); exact rfl; exact rfl; (focus ((repeat constructor); done)); exact AggC.eq; exact SzC.eq; exact fun _ h => h.keep (by repeat constructor))
    exact ⟨rfl, rfl⟩
def RImg.sdOf (x : RImg) (oc : Int) : Q4 := if 0 ≤ oc ∧ oc < 4 then ((x.es.getD oc.toNat default)).sd else nilQ
def shp (c : Cfg) (oc : Int) : Got := if 0 ≤ oc ∧ oc < 4 then (c.lS oc, c.lP oc, c.lC oc, c.lG oc) else ([], [], [], [])
theorem nil_seen {w : World} {S : BSet} : nilQ.Seen w S := ⟨Sees.nilRow, Sees.nilRow, Sees.nilRow, Sees.nilRow, by decide, by decide, by decide, by decide⟩
theorem RImg.Seen.sd {x : RImg} {c : Cfg} {w : World} {S : BSet} (h : x.Seen c w S) (oc : Int) : (x.sdOf oc).Seen w S := by
  unfold RImg.sdOf
  split
  · exact (h.e oc.toNat (by omega)).sd
  · exact nil_seen
end Go.Proofs.Ytamofjpadnnppaa
namespace Go.Proofs.Ytamofjpadnnppaa
open Go.RowKit Go.BK
set_option maxHeartbeats 1000000 in
theorem said_spec (x : RImg) (g : Cfg) (oc : Int) (w : World) (S : BSet) (hS : (sepL []).sat S w) (hx : x.Seen g w S) :
    Tri Try.prog 51 #[ptr x.b 0, i64 oc] w S fun u A => ∃ a b d e : Value, u = .tuple #[.agg #[((x.sdOf oc)).a, ((x.sdOf oc)).b, ((x.sdOf oc)).y, ((x.sdOf oc)).d], .agg #[a, b, d, e]] ∧ A = [.own 3 1 (a) (((shp g oc).1)).length ((((shp g oc).1)).map i64), .own 3 1 (b) (((shp g oc).2.1)).length ((((shp g oc).2.1)).map i64), .own 3 1 (d) (((shp g oc).2.2.1)).length ((((shp g oc).2.2.1)).map i64), .own 3 1 (e) (((shp g oc).2.2.2)).length ((((shp g oc).2.2.2)).map i64)] := by
  refine Tri.enter (l := [ptr x.b 0, i64 oc]) Try.func51 rfl Try.ntmps51 rfl [(0, ptr x.b 0), (1, i64 oc)] (subA rfl) hS ?_
  have hB := hx.blk
  have hV := hx.sv
  have hlen := hx.len
  repeat first
    | refine WC.seq ?_ | refine WC.region ?_
  try refine WL.wanted rfl rfl rfl ?_
  (apply WL.alloc; exact rfl; exact ZvC.eq; exact rfl; intro q4)
  skip
  try refine WL.wanted rfl rfl rfl ?_
  (apply WL.alloc; exact rfl; exact ZvC.eq; exact rfl; intro q5)
  by_cases hin : 0 ≤ oc ∧ oc < 4
  rotate_left
  · have e1 : x.sdOf oc = nilQ := if_neg hin
    have e2 : shp g oc = ([], [], [], []) := if_neg hin
    rw [e1, e2]
    refine WL.ownNil 3 1 ?_
    refine WL.ownNil 3 1 ?_
    refine WL.ownNil 3 1 ?_
    refine WL.ownNil 3 1 ?_
    by_cases h0 : 0 ≤ oc
    rotate_left
    · repeat first
        | (apply WL.q; exact rfl; exact rfl; exact rfl; (first | (apply EvW.move; exact rfl) | (apply EvW.cmpT; exact rfl; exact rfl; exact rfl; omega) | (apply EvW.pickT; exact rfl; exact rfl) | (apply EvW.build; exact PlC.eq; exact ZvC.eq; exact rfl; exact rfl; (focus ((repeat (first | exact Fills.nil | (apply Fills.cons; exact rfl; (first | assumption | exact rfl); exact rfl) | exact SetMany.nil | apply SetMany.cons | apply SetMany.succ)); done)))))
        | refine WC.seq ?_ | refine WC.region ?_ | refine WL.nil ?_ | refine WE.next ?_ | refine WC.condT rfl ?_ | refine WC.ret ?_ | refine WE.passRet ?_ | refine WL.unwanted rfl rfl rfl rfl ?_ | (apply WL.store; exact rfl; exact rfl; (first | assumption | exact rfl); exact SzC.eq; (first | assumption | exact rfl); (focus ((repeat constructor); done)))
      (apply WE.retCC (A' := [.own 3 1 (.slice none 0 0) 0 [], .own 3 1 (.slice none 0 0) 0 [], .own 3 1 (.slice none 0 0) 0 [], .own 3 1 (.slice none 0 0) 0 []]); exact rfl; exact rfl; exact rfl; (focus ((repeat constructor); done)); exact AggC.eq; exact SzC.eq; (focus ((repeat constructor); done)); exact AggC.eq; exact SzC.eq; exact fun _ h => h.keep (by repeat constructor))
      exact ⟨_, _, _, _, rfl, rfl⟩
    have h4 : ¬ oc < 4 := fun h => hin ⟨h0, h⟩
    repeat first
      | (apply WL.q; exact rfl; exact rfl; exact rfl; (first | (apply EvW.move; exact rfl) | (apply EvW.cmpT; exact rfl; exact rfl; exact rfl; omega) | (apply EvW.cmpF; exact rfl; exact rfl; exact rfl; omega) | (apply EvW.pickF; exact rfl; exact rfl) | (apply EvW.build; exact PlC.eq; exact ZvC.eq; exact rfl; exact rfl; (focus ((repeat (first | exact Fills.nil | (apply Fills.cons; exact rfl; (first | assumption | exact rfl); exact rfl) | exact SetMany.nil | apply SetMany.cons | apply SetMany.succ)); done)))))
      | refine WC.seq ?_ | refine WC.region ?_ | refine WL.nil ?_ | refine WE.next ?_ | refine WC.condT rfl ?_ | refine WC.ret ?_ | refine WE.passRet ?_ | refine WL.wanted rfl rfl rfl ?_ | (apply WL.store; exact rfl; exact rfl; (first | assumption | exact rfl); exact SzC.eq; (first | assumption | exact rfl); (focus ((repeat constructor); done)))
    (apply WE.retCC (A' := [.own 3 1 (.slice none 0 0) 0 [], .own 3 1 (.slice none 0 0) 0 [], .own 3 1 (.slice none 0 0) 0 [], .own 3 1 (.slice none 0 0) 0 []]); exact rfl; exact rfl; exact rfl; (focus ((repeat constructor); done)); exact AggC.eq; exact SzC.eq; (focus ((repeat constructor); done)); exact AggC.eq; exact SzC.eq; exact fun _ h => h.keep (by repeat constructor))
    exact ⟨_, _, _, _, rfl, rfl⟩
  · have e1 : x.sdOf oc = (x.es.getD oc.toNat default).sd := if_pos hin
    have e2 : shp g oc = (g.lS oc, g.lP oc, g.lC oc, g.lG oc) := if_pos hin
    rw [e1, e2]
    have hk := (hx.e oc.toNat (by omega)).sd
    obtain ⟨e, he⟩ : ∃ e, (x.es.getD oc.toNat default) = e := ⟨_, rfl⟩
    rw [he] at hk ⊢
    have o1 := hk.a.row_one
    have o2 := hk.b.row_one
    have o3 := hk.y.row_one
    have o4 := hk.d.row_one
    repeat first
      | (apply WL.q; exact rfl; exact rfl; exact rfl; (first | (apply EvW.move; exact rfl) | (apply EvW.cmpF; exact rfl; exact rfl; exact rfl; omega) | (apply EvW.pickF; exact rfl; exact rfl)))
      | refine WC.seq ?_ | refine WC.region ?_ | refine WL.nil ?_ | refine WE.next ?_ | refine WC.skip ?_ | refine WC.condF rfl ?_ | refine WL.wanted rfl rfl rfl ?_
    repeat refine WC.seq ?_
    refine WC.keep (xs := [.blk q4 #[(.slice none 0 0), (.slice none 0 0), (.slice none 0 0), (.slice none 0 0)] 54, .blk q5 #[(.slice none 0 0), (.slice none 0 0), (.slice none 0 0), (.slice none 0 0)] 51]) (by repeat constructor) ?_
    apply WC.par _ (fun c : Ch => [.blk q4 #[(.slice none 0 0), (.slice none 0 0), (.slice none 0 0), (.slice none 0 0)] 54, .blk q4 #[e.sd.a, e.sd.b, e.sd.y, e.sd.d] 54, .blk q5 #[(.slice none 0 0), (.slice none 0 0), (.slice none 0 0), (.slice none 0 0)] 51, .blk q5 #[cA (c 12).2 0, cA (c 12).2 1, cA (c 12).2 2, cA (c 12).2 3] 51, .own 3 1 ((cA (c 12).2 0)) ((g.lS oc)).length (((g.lS oc)).map i64), .own 3 1 ((cA (c 12).2 1)) ((g.lP oc)).length (((g.lP oc)).map i64), .own 3 1 ((cA (c 12).2 2)) ((g.lC oc)).length (((g.lC oc)).map i64), .own 3 1 ((cA (c 12).2 3)) ((g.lG oc)).length (((g.lG oc)).map i64)]) [none, some 13, none, some 14, some 12, some 12, some 12, some 12] [some 13, none, some 14, none, none, none, none, none] [(12, fun x => .agg #[cA x.2 0, cA x.2 1, cA x.2 2, cA x.2 3])] Try.mixed
    · (focus ((repeat (first | exact Restr.nil | (apply Restr.keep; exact rfl; exact rfl) | (apply Restr.drop; exact rfl))); done))
    · intro c; exact (by repeat constructor)
    · exact rfl
    · decide +kernel
    · decide +kernel
    · intro c
      (apply Par.quiet _ [true, false, true, false, false, false, false, false]; exact rfl; decide +kernel; exact rfl; intro R; refine ⟨_, (by repeat constructor), ?_⟩;
           (first | (apply EvW.move; exact rfl)))
      (apply Par.quiet _ [true, false, true, false, false, false, false, false]; exact rfl; decide +kernel; exact rfl; intro R; refine ⟨_, (by repeat constructor), ?_⟩;
           (first | (apply EvW.nilPtr; exact rfl)))
      (apply Par.quiet _ [true, false, true, false, false, false, false, false]; exact rfl; decide +kernel; exact rfl; intro R; refine ⟨_, (by repeat constructor), ?_⟩;
           (first | (apply EvW.fieldAddr0; exact rfl; exact FldC.eq)))
      (apply Par.quiet _ [true, false, true, false, false, false, false, false]; exact rfl; decide +kernel; exact rfl; intro R; refine ⟨_, (by repeat constructor), ?_⟩;
           (first | (apply EvW.ldSeen; exact rfl; exact ScalC.eq; assumption; (first | exact rfl | assumption))))
      (apply Par.quiet _ [true, false, true, false, false, false, false, false]; exact rfl; decide +kernel; exact rfl; intro R; refine ⟨_, (by repeat constructor), ?_⟩;
           (first | (apply EvW.move; exact rfl)))
      (apply Par.quiet _ [true, false, true, false, false, false, false, false]; exact rfl; decide +kernel; exact rfl; intro R; refine ⟨_, (by repeat constructor), ?_⟩;
           (first | (apply EvW.idxRow; exact rfl; exact rfl; exact UndC.eq; exact SzC.eq; assumption; omega; omega)))
      apply Par.quiet _ [true, false, true, false, false, false, false, false]
      · exact rfl
      · decide +kernel
      · exact rfl
      · intro R
        refine ⟨_, (by repeat constructor), ?_⟩
        (apply EvW.ldElem (xs := x.es) (z := (default : REar)) (f := rSt); exact rfl; exact AggC.eq; exact SzC.eq; exact rfl; exact fun _ => rfl; exact hV; omega)
      (apply Par.quiet _ [true, false, true, false, false, false, false, false]; exact rfl; decide +kernel; exact rfl; intro R; refine ⟨_, (by repeat constructor), ?_⟩;
           (first | (apply EvW.move; exact rfl)))
      (apply Par.quiet _ [true, false, true, false, false, false, false, false]; exact rfl; decide +kernel; exact rfl; intro R; refine ⟨_, (by repeat constructor), ?_⟩;
           (first | (apply EvW.nilPtr; exact rfl)))
      (apply Par.quiet _ [true, false, true, false, false, false, false, false]; exact rfl; decide +kernel; exact rfl; intro R; refine ⟨_, (by repeat constructor), ?_⟩;
           (first | (apply EvW.fieldAddr0; exact rfl; exact FldC.eq)))
      apply Par.quiet _ [true, false, true, false, false, false, false, false]
      · exact rfl
      · decide +kernel
      · exact rfl
      · intro R
        refine ⟨_, (by repeat constructor), ?_⟩
        (apply EvW.ldAggSeen; exact rfl; exact AggC.eq; exact SzC.eq; exact hB; (focus ((repeat (first | exact SubL.nil | apply SubL.cons | apply SubL.succ)); done)))
      (apply Par.quiet _ [true, false, true, false, false, false, false, false]; exact rfl; decide +kernel; exact rfl; intro R; refine ⟨_, (by repeat constructor), ?_⟩;
           (first | (apply EvW.move; exact rfl)))
      apply Par.new _ [false, false, false, false, false, false, false, false] [false, false, false, false, true, true, true, true] [true, false, true, false, false, false, false, false]
      · exact rfl
      · exact rfl
      · decide +kernel
      · intro R
        refine ⟨_, _, _, (by repeat constructor), (by repeat constructor), (fun x => (by repeat constructor)), ?_⟩
        apply NewW.callA ([]) (fun x => [.own 3 1 ((cA x.2 0)) ((g.lS oc)).length (((g.lS oc)).map i64), .own 3 1 ((cA x.2 1)) ((g.lP oc)).length (((g.lP oc)).map i64), .own 3 1 ((cA x.2 2)) ((g.lC oc)).length (((g.lC oc)).map i64), .own 3 1 ((cA x.2 3)) ((g.lG oc)).length (((g.lG oc)).map i64)])
        · exact rfl
        · exact fun w => Try.call12 _ w
        · (focus ((repeat constructor); done))
        · exact fun w1 S1 hS1 hs1 ho1 => rshape_spec g oc w1 S1 hS1 (hx.c.down hs1)
        · rintro _ _ ⟨x1, x2, x3, x4, rfl, rfl⟩; exact ⟨(0, .agg #[x1, x2, x3, x4]), rfl, rfl⟩
        · exact fun x _ h => TakeT.st (by (focus ((repeat (first | exact TakeT.tail | apply TakeT.cons | exact Take.head | apply Take.tail | apply TakeT.drop)); done))) h
      apply Par.eff _ [true, false, false, false, false, false, false, false] [false, true, false, false, false, false, false, false] [false, false, true, false, true, true, true, true]
      · exact rfl
      · exact rfl
      · decide +kernel
      · intro R
        refine ⟨_, _, _, (by repeat constructor), (by repeat constructor), (by repeat constructor), ?_⟩
        (apply EffW.store (v := .agg (rSt e).toArray) (cs := rSt e); exact rfl; (rw [← he]; exact rfl); exact rfl; exact SzC.eq; (simp [rSt, o1, o2, o3, o4]); (focus ((repeat constructor); done)))
      apply Par.eff _ [false, false, true, false, false, false, false, false] [false, false, false, true, false, false, false, false] [false, true, false, false, true, true, true, true]
      · exact rfl
      · exact rfl
      · decide +kernel
      · intro R
        refine ⟨_, _, _, (by repeat constructor), (by repeat constructor), (by repeat constructor), ?_⟩
        (apply EffW.slOwn (cA (c 12).2 0); (focus ((repeat constructor); done)); intro _ ho1; apply EffW.slOwn (cA (c 12).2 1); (focus ((repeat constructor); done)); intro _ ho2; apply EffW.slOwn (cA (c 12).2 2); (focus ((repeat constructor); done)); intro _ ho3; apply EffW.slOwn (cA (c 12).2 3); (focus ((repeat constructor); done)); intro _ ho4; (apply EffW.store; exact rfl; exact rfl; exact rfl; exact SzC.eq; (simp [ho1, ho2, ho3, ho4]); (focus ((repeat constructor); done))))
      exact Par.nil
    · repeat (first | exact AllN.nil | (apply AllN.cons; (intro c x; (repeat (first | exact IndA.nil | (apply IndA.skip; decide +kernel) | apply IndA.same))))) 
    · repeat (first | exact AllN.nil | (apply AllN.cons; (intro c x; (repeat (first | exact IndT.nil | (apply IndT.skip; decide +kernel) | apply IndT.same))))) 
    · exact fun _ => rfl
    intro c
    refine ⟨_, (by repeat constructor), ?_⟩
    apply WE.writ
    · (focus ((repeat (first | exact Writ.nil | apply Writ.some | apply Writ.none)); done))
    generalize (c 12).1 = b12
    generalize (c 12).2 = sv
    repeat first
      | refine WE.next ?_ | refine WC.ret ?_
    (apply WE.retCC (A' := [.own 3 1 ((cA sv 0)) ((g.lS oc)).length (((g.lS oc)).map i64), .own 3 1 ((cA sv 1)) ((g.lP oc)).length (((g.lP oc)).map i64), .own 3 1 ((cA sv 2)) ((g.lC oc)).length (((g.lC oc)).map i64), .own 3 1 ((cA sv 3)) ((g.lG oc)).length (((g.lG oc)).map i64)]); exact rfl; exact rfl; exact rfl; (focus ((repeat constructor); done)); exact AggC.eq; exact SzC.eq; (focus ((repeat constructor); done)); exact AggC.eq; exact SzC.eq; exact fun _ h => h.keep (by repeat constructor))
    exact ⟨_, _, _, _, rfl, rfl⟩
end Go.Proofs.Ytamofjpadnnppaa
