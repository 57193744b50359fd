/- WiresPlays holds for every input of bulk at most 1048576: whatever the modes, and whatever goes in, what comes out is what the document says. Condition: the bulk of the second form. -/
import Derived.Test.YtoaajdmacngnjaaWiresPeM3
namespace Go.Proofs.Ytoaajdmacngnjaa
open Go.RowKit Go.BK
theorem flat_snoc (l : List Tel) (t : Tel) : (l ++ [t]).flatMap telC = l.flatMap telC ++ [i64 t.1, str t.2] := by rw [List.flatMap_append]; rfl
theorem len_snoc (l : List Tel) (t : Tel) : (l ++ [t]).length = l.length + 1 := by rw [List.length_append, List.length_singleton]
theorem keys_take (K : List Int) (f : Int → List Tel) (i : Nat) (h : i < K.length) : (K.take (i + 1)).flatMap f = (K.take i).flatMap f ++ f (K.getD i 0) := by
  rw [take_step K i h, List.flatMap_append, List.flatMap_singleton]
/-- The parts of a list that are some keys' are no more than the list. -/
theorem parts_len (l : List Tel) : ∀ K : List Int, K.Pairwise (· < ·) → (K.flatMap fun p => l.filter (isP p)).length ≤ l.length := by
  intro K
  induction K generalizing l with
  | nil => intro _; exact Nat.zero_le _
  | cons p K ih =>
    intro h
    obtain ⟨h1, h2⟩ := List.pairwise_cons.1 h
    rw [List.flatMap_cons, List.length_append]
    have h3 := ih (l.filter fun t => !isP p t) h2
    have h4 : (K.flatMap fun q => l.filter (isP q)) = K.flatMap fun q => (l.filter fun t => !isP p t).filter (isP q) := by
      have : ∀ q ∈ K, l.filter (isP q) = (l.filter fun t => !isP p t).filter (isP q) := fun q hq => by
        rw [List.filter_filter]
        refine List.filter_congr fun t _ => ?_
        have := h1 q hq
        unfold isP
        by_cases e : t.1 = q
        · rw [decide_eq_true e, decide_eq_false (show ¬ t.1 = p by omega)]; rfl
        · rw [decide_eq_false e]; rfl
      clear h3 ih
      induction K with
      | nil => rfl
      | cons q K ih2 =>
        rw [List.flatMap_cons, List.flatMap_cons, this q (by simp), ih2 (List.pairwise_cons.2 ⟨fun x hx => h1 x (by simp [hx]), (List.pairwise_cons.1 h2).2⟩) (fun x hx => h1 x (by simp [hx])) (List.pairwise_cons.1 h2).2 fun x hx => this x (by simp [hx])]
    rw [h4]
    have h5 : l.length = (l.filter (isP p)).length + (l.filter fun t => !isP p t).length := by
      rw [← List.countP_eq_length_filter, ← List.countP_eq_length_filter]
      rw [List.length_eq_countP_add_countP (isP p)]
      congr 1
      exact List.countP_congr fun t _ => by simp
    omega
theorem out_len (md : Int → Int) (due held : List Tel) (K : List Int) (h : K.Pairwise (· < ·)) : (K.flatMap (peerO md due held)).length ≤ due.length + held.length := by
  have h1 := parts_len due K h
  have h2 := parts_len held K h
  have h3 : (K.flatMap (peerO md due held)).length ≤ (K.flatMap fun p => due.filter (isP p)).length + (K.flatMap fun p => held.filter (isP p)).length := by
    clear h h1 h2
    induction K with
    | nil => exact Nat.zero_le _
    | cons p K ih =>
      simp only [List.flatMap_cons, List.length_append]
      have : (peerO md due held p).length ≤ (due.filter (isP p)).length + (held.filter (isP p)).length := by
        unfold peerO
        rw [List.length_append]
        split
        · simp
        · rw [List.length_reverse]; exact Nat.le_refl _
      omega
  omega
theorem dstep_len (md : Int → Int) (s : List Tel × List Tel × List Tel) (t : Tel) : (dStep md s t).1.length ≤ s.1.length + 1 ∧ (dStep md s t).2.1.length ≤ s.2.1.length + 1 ∧ (dStep md s t).2.2.length ≤ s.2.2.length + 1 := by
  unfold dStep
  split
  · simp
  · split
    · simp
    · split
      · simp
      · split
        · simp
        · split
          · simp
          · simp
theorem dpass_len (md : Int → Int) (due held l : List Tel) (K : List Int) (h : K.Pairwise (· < ·)) : (dPass md due held l K).1.length ≤ due.length + held.length + l.length ∧ (dPass md due held l K).2.1.length ≤ due.length + held.length + l.length ∧ (dPass md due held l K).2.2.length ≤ due.length + held.length + l.length := by
  have h1 := out_len md due held K h
  have h2 := List.length_filter_le (isHeld md) held
  unfold dPass
  have key : ∀ (l : List Tel) (s : List Tel × List Tel × List Tel) (n : Nat), s.1.length ≤ n ∧ s.2.1.length ≤ n ∧ s.2.2.length ≤ n → (l.foldl (dStep md) s).1.length ≤ n + l.length ∧ (l.foldl (dStep md) s).2.1.length ≤ n + l.length ∧ (l.foldl (dStep md) s).2.2.length ≤ n + l.length := by
    intro l
    induction l with
    | nil => intro s n h; exact h
    | cons t l ih =>
      intro s n h
      have h3 := dstep_len md s t
      have := ih (dStep md s t) (n + 1) ⟨by omega, by omega, by omega⟩
      rw [List.foldl_cons, List.length_cons]
      omega
  exact key l _ _ ⟨h1, Nat.zero_le _, (by show (held.filter (isHeld md)).length ≤ _; omega)⟩
theorem keyof_first {K : List Int} {l : List Tel} (h : KeysOf K l) : ∃ p f, leastF l 0 true = (p, f) ∧ ((0 < K.length ∧ f = true ∧ p = K.getD 0 0) ∨ (0 = K.length ∧ f = false)) := by
  by_cases h0 : 0 < K.length
  · exact ⟨_, _, least_first h h0, .inl ⟨h0, rfl, rfl⟩⟩
  · exact ⟨_, _, rfl, .inr ⟨by omega, least_none h (by omega)⟩⟩
theorem keyof_next {K : List Int} {l : List Tel} (h : KeysOf K l) {j : Nat} (hj : j < K.length) : ∃ p f, leastF l (K.getD j 0) false = (p, f) ∧ ((j + 1 < K.length ∧ f = true ∧ p = K.getD (j + 1) 0) ∨ (j + 1 = K.length ∧ f = false)) := by
  by_cases h0 : j + 1 < K.length
  · exact ⟨_, _, least_next h h0, .inl ⟨h0, rfl, rfl⟩⟩
  · exact ⟨_, _, rfl, .inr ⟨by omega, least_last h (by omega)⟩⟩
def backG (md : Int → Int) (held : List Tel) (p : Int) (r : Nat) : List Tel := if md p = 5 then [] else backP held p r
theorem backG_len (md : Int → Int) (held : List Tel) (p : Int) (r : Nat) : (backG md held p r).length ≤ held.length := by
  unfold backG
  split
  · exact Nat.zero_le _
  · exact back_len held p r
set_option maxHeartbeats 8000000 in
set_option maxRecDepth 8000 in
theorem rpass20_spec (rb : Nat) (md : Int → Int) (due held : List Tel) (v : Value) (l : List Tel) (K : List Int) (w : World) (S : BSet) (hS : (sepL [docH rb md due held]).sat S w) (hv : Sees w S (.row 2 v l.length (l.flatMap telC))) (hK : KeysOf K (due ++ held)) (hu : due.length + held.length + l.length ≤ 2147483648) (ht : ∀ t ∈ l, t.2.length ≤ 140737488355328) :
    Tri Try.prog 15 #[ptr rb 0, v] w S fun u A => A = [.own 34 2 (u) ((dPass md due held l K).1).length (((dPass md due held l K).1).flatMap telC), docH rb md (dPass md due held l K).2.1 (dPass md due held l K).2.2] := by
  refine Tri.enter (l := [ptr rb 0, v]) Try.func15 rfl Try.ntmps15 rfl [(0, ptr rb 0), (1, v)] (subA rfl) hS ?_
  refine WC.openD .head fun o m vd vh hmd => ?_
  (first | refine WL.slOwn (v := vd) (by repeat constructor) ?_ | refine WC.slOwn (v := vd) (by repeat constructor) ?_)
  intro hc_vd ho_vd
  (first | refine WL.slOwn (v := vh) (by repeat constructor) ?_ | refine WC.slOwn (v := vh) (by repeat constructor) ?_)
  intro hc_vh ho_vh
  have hal : (due ++ held).length = due.length + held.length := List.length_append
  repeat first
    | (apply WL.q; exact rfl; exact rfl; exact rfl; (first | (apply EvW.assign; exact rfl)))
    | refine WC.seq ?_ | refine WC.region ?_ | refine WL.nil ?_ | refine WE.next ?_
  repeat refine WC.seq ?_
  refine WC.keep (xs := [.blk rb #[.map (some o), vd, vh] 52, .imap o m, .own 34 2 (vd) (due).length ((due).flatMap telC), .own 34 2 (vh) (held).length ((held).flatMap telC)]) (by repeat constructor) ?_
  apply WC.par _ (fun c : Ch => [.blk rb #[.map (some o), vd, vh] 52, .imap o m, .own 34 2 (vd) (due).length ((due).flatMap telC), .own 34 2 (vh) (held).length ((held).flatMap telC), .own 34 2 (.slice (some ⟨(c 0).1, 0, none⟩) 0 0) 0 [], .own 34 2 ((c 5).2) (0 + due.length) ([] ++ due.flatMap telC), .own 34 2 ((c 10).2) (0 + due.length + held.length) ([] ++ due.flatMap telC ++ held.flatMap telC)]) [none, none, none, none, some 0, some 5, some 10] [none, none, none, none, some 5, some 10, none] [(0, fun x => .slice (some ⟨x.1, 0, none⟩) 0 0), (5, fun x => x.2), (10, fun x => x.2)] Try.mixed
  · (focus ((repeat (first | exact Restr.nil | (apply Restr.keep; exact rfl; exact rfl) | (apply Restr.drop; exact rfl))); done))
  · intro c; exact (by repeat constructor)
  · exact rfl
  · decide +kernel
  · decide +kernel
  · intro c
    apply Par.new _ [false, false, false, false, false, false, false] [false, false, false, false, true, false, false] [true, true, true, true, false, false, false]
    · exact rfl
    · exact rfl
    · decide +kernel
    · intro R
      refine ⟨_, _, _, (by repeat constructor), (by repeat constructor), (fun x => (by repeat constructor)), ?_⟩
      (refine NewW.conv ?_ (fun _ _ hs => St.zeroT hs); (apply NewW.buildSlice; exact UndC.eq; exact SzC.eq; exact ZvC.eq; exact rfl; exact rfl; exact rfl; exact Flat.nil; exact rfl; exact rfl; exact fun _ => rfl))
    (apply Par.quiet _ [true, true, true, true, false, false, false]; exact rfl; decide +kernel; exact rfl; intro R; refine ⟨_, (by repeat constructor), ?_⟩;
         (first | (apply EvW.move; exact rfl)))
    (apply Par.quiet _ [true, true, true, true, false, false, false]; exact rfl; decide +kernel; exact rfl; intro R; refine ⟨_, (by repeat constructor), ?_⟩;
         (first | (apply EvW.nilPtr; exact rfl)))
    (apply Par.quiet _ [true, true, true, true, false, false, false]; exact rfl; decide +kernel; exact rfl; intro R; refine ⟨_, (by repeat constructor), ?_⟩;
         (first | (apply EvW.fieldAddr0; exact rfl; exact FldC.eq)))
    (apply Par.quiet _ [true, true, true, true, false, false, false]; exact rfl; decide +kernel; exact rfl; intro R; refine ⟨_, (by repeat constructor), ?_⟩;
         (first | (apply EvW.load; exact rfl; exact ScalC.eq; (focus ((repeat constructor); done)); exact rfl)))
    apply Par.new _ [false, false, false, false, true, false, false] [false, false, false, false, false, true, false] [true, true, true, true, false, false, false]
    · exact rfl
    · exact rfl
    · decide +kernel
    · intro R
      refine ⟨_, _, _, (by repeat constructor), (by repeat constructor), (fun x => (by repeat constructor)), ?_⟩
      (apply NewW.append; exact rfl; exact rfl; exact UndC.eq; exact SzC.eq; exact ByC.eq; exact ZvC.eq; exact rfl; (first | exact notInt_sl UndC.eq | exact notInt_st UndC.eq); exact rfl; (focus ((repeat constructor); done)))
      · exact adds_own (by repeat constructor) (flat_telS due) (all_tel due)
      · (omega)
      · exact fun _ _ h => TakeT.st (by (focus ((repeat (first | exact TakeT.tail | apply TakeT.cons | exact Take.head | apply Take.tail | apply TakeT.drop)); done))) h
    (apply Par.quiet _ [true, true, true, true, false, false, false]; exact rfl; decide +kernel; exact rfl; intro R; refine ⟨_, (by repeat constructor), ?_⟩;
         (first | (apply EvW.move; exact rfl)))
    (apply Par.quiet _ [true, true, true, true, false, false, false]; exact rfl; decide +kernel; exact rfl; intro R; refine ⟨_, (by repeat constructor), ?_⟩;
         (first | (apply EvW.nilPtr; exact rfl)))
    (apply Par.quiet _ [true, true, true, true, false, false, false]; exact rfl; decide +kernel; exact rfl; intro R; refine ⟨_, (by repeat constructor), ?_⟩;
         (first | (apply EvW.fieldAddr0; exact rfl; exact FldC.eq)))
    (apply Par.quiet _ [true, true, true, true, false, false, false]; exact rfl; decide +kernel; exact rfl; intro R; refine ⟨_, (by repeat constructor), ?_⟩;
         (first | (apply EvW.load; exact rfl; exact ScalC.eq; (focus ((repeat constructor); done)); exact rfl)))
    apply Par.new _ [false, false, false, false, false, true, false] [false, false, false, false, false, false, true] [true, true, true, true, false, false, false]
    · exact rfl
    · exact rfl
    · decide +kernel
    · intro R
      refine ⟨_, _, _, (by repeat constructor), (by repeat constructor), (fun x => (by repeat constructor)), ?_⟩
      (apply NewW.append; exact rfl; exact rfl; exact UndC.eq; exact SzC.eq; exact ByC.eq; exact ZvC.eq; exact rfl; (first | exact notInt_sl UndC.eq | exact notInt_st UndC.eq); exact rfl; (focus ((repeat constructor); done)))
      · exact adds_own (by repeat constructor) (flat_telS held) (all_tel held)
      · (omega)
      · exact fun _ _ h => TakeT.st (by (focus ((repeat (first | exact TakeT.tail | apply TakeT.cons | exact Take.head | apply Take.tail | apply TakeT.drop)); done))) h
    (apply Par.quiet _ [true, true, true, true, false, false, true]; exact rfl; decide +kernel; exact rfl; intro R; refine ⟨_, (by repeat constructor), ?_⟩;
         (first | (apply EvW.assign; exact rfl)))
    exact Par.nil
  · repeat (first | exact AllN.nil | (apply AllN.cons; (intro c x; (repeat (first | exact IndA.nil | (apply IndA.skip; decide +kernel) | apply IndA.same))))) 
  · repeat (first | exact AllN.nil | (apply AllN.cons; (intro c x; (repeat (first | exact IndT.nil | (apply IndT.skip; decide +kernel) | apply IndT.same))))) 
  · exact fun _ => rfl
  intro c
  refine ⟨_, (by repeat constructor), ?_⟩
  apply WE.writ
  · (focus ((repeat (first | exact Writ.nil | apply Writ.some | apply Writ.none)); done))
  generalize (c 0).1 = b0
  generalize (c 10).2 = av
  refine WE.keep (xs := [.blk rb #[.map (some o), vd, vh] 52, .imap o m, .own 34 2 (vd) (due).length ((due).flatMap telC), .own 34 2 (vh) (held).length ((held).flatMap telC), .own 34 2 (av) ((due ++ held)).length (((due ++ held)).flatMap telC)]) (by
    have e1 : 0 + due.length + held.length = (due ++ held).length := by omega
    rw [← e1, List.flatMap_append]
    (focus ((repeat constructor); done))) ?_
  repeat first
    | (apply WL.q; exact rfl; exact rfl; exact rfl; (first | (apply EvW.move; exact rfl)))
    | refine WC.seq ?_ | refine WC.region ?_ | refine WE.next ?_
  try refine WL.wanted rfl rfl rfl ?_
  apply WL.callA ([])
  · exact rfl
  · exact rfl
  · exact fun w => Try.call25 _ w
  · (focus ((repeat constructor); done))
  · exact fun w1 S1 hS1 hs1 ho1 => rleast_spec av (due ++ held) 0 true w1 S1 hS1 (ho1 (.own 34 2 (av) ((due ++ held)).length (((due ++ held)).flatMap telC)) _ (by repeat constructor)).own (by omega)
  rintro _ _ ⟨rfl, rfl⟩
  first | refine WL.app4 ?_ | refine WL.app3 ?_ | refine WL.app2 ?_ | refine WL.app1 ?_ | refine WL.app0 ?_ | skip
  obtain ⟨p0, f0, hpf, hpf2⟩ := keyof_first hK
  rw [hpf]
  dsimp only
  refine WL.ownNil 34 2 ?_
  refine WL.keep (xs := [.blk rb #[.map (some o), vd, vh] 52, .imap o m, .own 34 2 (vd) (due).length ((due).flatMap telC), .own 34 2 (vh) (held).length ((held).flatMap telC), .own 34 2 (av) ((due ++ held)).length (((due ++ held)).flatMap telC), .own 34 2 ((Value.slice none 0 0)) (((K.take 0).flatMap (peerO md due held))).length ((((K.take 0).flatMap (peerO md due held))).flatMap telC)]) (by rw [List.take_zero]; (focus ((repeat constructor); done))) ?_
  repeat first
    | (apply WL.q; exact rfl; exact rfl; exact rfl; (first | (apply EvW.move; exact rfl) | (apply EvW.assign; exact rfl) | (apply EvW.extract; exact rfl; exact rfl)))
    | refine WC.seq ?_ | refine WL.nil ?_ | refine WE.next ?_ | refine WC.block ?_
  refine WC.loopK (σ := Nat × Value × Int × Bool) [0, 1, 6, 7, 8] (fun s => [(5, s.2.1), (9, i64 s.2.2.1), (10, .bool s.2.2.2)]) (fun s => [.blk rb #[.map (some o), vd, vh] 52, .imap o m, .own 34 2 (vd) (due).length ((due).flatMap telC), .own 34 2 (vh) (held).length ((held).flatMap telC), .own 34 2 (av) ((due ++ held)).length (((due ++ held)).flatMap telC), .own 34 2 (s.2.1) (((K.take s.1).flatMap (peerO md due held))).length ((((K.take s.1).flatMap (peerO md due held))).flatMap telC)]) (fun s => s.1 ≤ K.length ∧ ((s.1 < K.length ∧ s.2.2.2 = true ∧ s.2.2.1 = K.getD s.1 0) ∨ (s.1 = K.length ∧ s.2.2.2 = false))) (fun s => K.length - s.1) (0, (Value.slice none 0 0), p0, f0) (by (focus ((repeat (first | exact Pick.nil | (apply Pick.cons; exact rfl))); done))) (by (focus ((repeat (first | exact trivial | (refine ⟨rfl, ?_⟩))); done))) (fun _ h => h.keep (by repeat constructor)) ⟨Nat.zero_le _, hpf2⟩ (fun s hs => ?_)
  obtain ⟨j, ov, p, f⟩ := s
  simp only [List.cons_append, List.nil_append] at hs ⊢
  obtain ⟨hj0, hjc⟩ := hs
  rcases hjc with ⟨hj, rfl, hp⟩ | ⟨rfl, rfl⟩
  · have hBl := out_len md due held (K.take j) (hK.lt.sublist (List.take_sublist _ _))
    have hnxt := keys_take K (peerO md due held) j hj
    rw [← hp] at hnxt
    obtain ⟨B, hB⟩ : ∃ B, ((K.take j).flatMap (peerO md due held)) = B := ⟨_, rfl⟩
    rw [hB] at hBl hnxt ⊢
    repeat first
      | (apply WL.q; exact rfl; exact rfl; exact rfl; (first | (apply EvW.move; exact rfl) | (apply EvW.nilPtr; exact rfl) | (apply EvW.fieldAddr0; exact rfl; exact FldC.eq) | (apply EvW.load; exact rfl; exact ScalC.eq; (focus ((repeat constructor); done)); exact rfl) | (apply EvW.lenOwn; exact rfl; exact UndC.eq; (focus ((repeat constructor); done)))))
      | refine WC.seq ?_ | refine WC.region ?_ | refine WL.nil ?_ | refine WE.next ?_ | refine WC.block ?_ | refine WC.skip ?_ | refine WC.condT rfl ?_
    refine WC.keep (xs := [.blk rb #[.map (some o), vd, vh] 52, .imap o m, .own 34 2 (vd) (due).length ((due).flatMap telC), .own 34 2 (vh) (held).length ((held).flatMap telC), .own 34 2 (av) ((due ++ held)).length (((due ++ held)).flatMap telC), .own 34 2 (ov) ((B ++ (due.take 0).filter (isP p))).length (((B ++ (due.take 0).filter (isP p))).flatMap telC)]) (by rw [List.take_zero, List.filter_nil, List.append_nil]; (focus ((repeat constructor); done))) ?_
    refine WC.loopK (σ := Nat × Value) [0, 1, 6, 7, 8, 9, 38, 39] (fun s => [(5, s.2), (40, i64 s.1)]) (fun s => [.blk rb #[.map (some o), vd, vh] 52, .imap o m, .own 34 2 (vd) (due).length ((due).flatMap telC), .own 34 2 (vh) (held).length ((held).flatMap telC), .own 34 2 (av) ((due ++ held)).length (((due ++ held)).flatMap telC), .own 34 2 (s.2) ((B ++ (due.take s.1).filter (isP p))).length (((B ++ (due.take s.1).filter (isP p))).flatMap telC)]) (fun s => s.1 ≤ due.length) (fun s => due.length - s.1) (0, ov) (by (focus ((repeat (first | exact Pick.nil | (apply Pick.cons; exact rfl))); done))) (by (focus ((repeat (first | exact trivial | (refine ⟨rfl, ?_⟩))); done))) (fun _ h => h.keep (by repeat constructor)) (Nat.zero_le _) (fun s hs => ?_)
    obtain ⟨i, xv⟩ := s
    simp only [List.cons_append, List.nil_append] at hs ⊢
    by_cases hlt : (i : Int) < due.length
    · have hi : i < due.length := by omega
      have hfl : ((due.take i).filter (isP p)).length ≤ due.length := Nat.le_trans (List.length_filter_le _ _) (by rw [List.length_take]; omega)
      have hln : (B ++ (due.take i).filter (isP p)).length ≤ 4294967296 := by rw [List.length_append]; omega
      repeat first
        | (apply WL.q; exact rfl; exact rfl; exact rfl; (first | (apply EvW.cmpT; exact rfl; exact rfl; exact rfl; omega) | (apply EvW.idxOwn; exact rfl; exact rfl; exact UndC.eq; exact SzC.eq; (focus ((repeat constructor); done)); omega; omega)))
        | refine WC.seq ?_ | refine WC.region ?_ | refine WL.nil ?_ | refine WE.next ?_ | refine WC.block ?_ | refine WC.skip ?_ | refine WC.condT rfl ?_
      try refine WL.wanted rfl rfl rfl ?_
      (apply WL.q; exact rfl; exact rfl; exact rfl; (apply EvW.ldElemOwn (xs := due) (z := (default : Tel)) (f := telC); exact rfl; exact AggC.eq; exact SzC.eq; exact rfl; exact fun _ => rfl; (focus ((repeat constructor); done)); omega))
      try refine WL.wanted rfl rfl rfl ?_
      (apply WL.alloc; exact rfl; exact ZvC.eq; exact rfl; intro tb)
      rw [show ((i : Nat) : Int).toNat = i from rfl]
      obtain ⟨t, htt⟩ : ∃ t, due.getD i default = t := ⟨_, rfl⟩
      rw [htt]
      by_cases hc : t.1 = p
      · have hst := filter_yes (p := isP p) due i hi (by rw [htt]; exact decide_eq_true hc)
        rw [htt] at hst
        repeat first
          | (apply WL.q; exact rfl; exact rfl; exact rfl; (first | (apply EvW.move; exact rfl) | (apply EvW.fieldAddr0; exact rfl; exact FldC.eq) | (apply EvW.load; exact rfl; exact ScalC.eq; (focus ((repeat constructor); done)); exact rfl) | (apply EvW.cmpT; exact rfl; exact rfl; exact rfl; omega) | (apply EvW.loadAgg; exact rfl; exact AggC.eq; exact SzC.eq; (focus ((repeat constructor); done)); (focus ((repeat (first | exact SubL.nil | apply SubL.cons | apply SubL.succ)); done)))))
          | refine WC.seq ?_ | refine WC.region ?_ | refine WL.nil ?_ | refine WE.next ?_ | refine WC.condT rfl ?_ | (apply WL.store; exact rfl; exact rfl; (first | assumption | exact rfl); exact SzC.eq; (first | assumption | exact rfl); (focus ((repeat constructor); done)))
        try refine WL.wanted rfl rfl rfl ?_
        (apply WL.buildSlice; exact rfl; exact UndC.eq; exact SzC.eq; exact ZvC.eq; exact rfl; exact rfl; exact rfl; ((focus ((repeat (first | exact Flat.nil | (apply Flat.one; (first | exact rfl | assumption)) | (apply Flat.cons; exact rfl; exact rfl))); done))); exact rfl; exact rfl; intro k0)
        skip
        try refine WL.wanted rfl rfl rfl ?_
        (apply WL.append; exact rfl; exact rfl; exact rfl; exact UndC.eq; exact SzC.eq; exact ByC.eq; exact ZvC.eq; exact rfl; (first | exact notInt_sl UndC.eq | exact notInt_st UndC.eq); exact rfl; (focus ((repeat constructor); done)))
        · exact adds_blk .head rfl rfl
        · (omega)
        intro x2
        refine WL.ownEq (cs' := (B ++ (due.take (i + 1)).filter (isP p)).flatMap telC) (len' := (B ++ (due.take (i + 1)).filter (isP p)).length) .head (by rw [hst, ← List.append_assoc, len_snoc]) (by rw [hst, List.append_nil, List.flatMap_append, List.flatMap_append, List.flatMap_append, List.append_assoc]; rfl) ?_
        (first | refine WL.slOwn (v := x2) (by repeat constructor) ?_ | refine WC.slOwn (v := x2) (by repeat constructor) ?_)
        intro hc_x2 ho_x2
        repeat first
          | (apply WL.q; exact rfl; exact rfl; exact rfl; (first | (apply EvW.move; exact rfl) | (apply EvW.assign; exact rfl) | (apply EvW.arN; exact rfl; exact rfl; exact rfl; refine i64_in ?_ ?_ <;> omega)))
          | refine WC.region ?_ | refine WL.nil ?_ | refine WE.next ?_ | refine WE.out ?_
        exact WE.again (s := (i, xv)) ((i + 1, x2)) (by simp only []; omega) (by (focus ((repeat (first | exact trivial | (refine ⟨rfl, ?_⟩))); done))) (fun _ h => (by (try simp only []); exact h.keep (by repeat constructor))) (by (try simp only []); omega)
      · have hst := filter_no (p := isP p) due i hi (by rw [htt]; exact decide_eq_false hc)
        repeat first
          | (apply WL.q; exact rfl; exact rfl; exact rfl; (first | (apply EvW.move; exact rfl) | (apply EvW.fieldAddr0; exact rfl; exact FldC.eq) | (apply EvW.load; exact rfl; exact ScalC.eq; (focus ((repeat constructor); done)); exact rfl) | (apply EvW.cmpF; exact rfl; exact rfl; exact rfl; omega) | (apply EvW.arN; exact rfl; exact rfl; exact rfl; refine i64_in ?_ ?_ <;> omega)))
          | refine WC.seq ?_ | refine WC.region ?_ | refine WL.nil ?_ | refine WE.next ?_ | refine WC.skip ?_ | refine WE.out ?_ | refine WC.condF rfl ?_ | (apply WL.store; exact rfl; exact rfl; (first | assumption | exact rfl); exact SzC.eq; (first | assumption | exact rfl); (focus ((repeat constructor); done)))
        exact WE.again (s := (i, xv)) ((i + 1, xv)) (by simp only []; omega) (by (focus ((repeat (first | exact trivial | (refine ⟨rfl, ?_⟩))); done))) (fun _ h => (by (try simp only []); rw [hst]; exact h.keep (by repeat constructor))) (by (try simp only []); omega)
    obtain rfl : i = due.length := by omega
    rw [List.take_length]
    have hfl : (due.filter (isP p)).length ≤ due.length := List.length_filter_le _ _
    have hB2l : (B ++ due.filter (isP p)).length ≤ 4294967296 := by rw [List.length_append]; omega
    have hB2m : (B ++ due.filter (isP p)).length ≤ 2 * due.length + held.length := by rw [List.length_append]; omega
    obtain ⟨B2, hB2⟩ : ∃ B2, B ++ due.filter (isP p) = B2 := ⟨_, rfl⟩
    rw [hB2] at hB2l hB2m ⊢
    repeat first
      | (apply WL.q; exact rfl; exact rfl; exact rfl; (first | (apply EvW.move; exact rfl) | (apply EvW.assign; exact rfl) | (apply EvW.nilPtr; exact rfl) | (apply EvW.fieldAddr0; exact rfl; exact FldC.eq) | (apply EvW.load; exact rfl; exact ScalC.eq; (focus ((repeat constructor); done)); exact rfl) | (apply EvW.cmpF; exact rfl; exact rfl; exact rfl; omega) | (apply EvW.arN; exact rfl; exact rfl; exact rfl; refine i64_in ?_ ?_ <;> omega) | (apply EvW.lenOwn; exact rfl; exact UndC.eq; (focus ((repeat constructor); done)))))
      | refine WC.seq ?_ | refine WC.region ?_ | refine WL.nil ?_ | refine WE.next ?_ | refine WC.block ?_ | refine WC.exit ?_ | refine WE.pass ?_ | refine WE.hit ?_ | refine WC.condF rfl ?_
    refine WC.keep (xs := [.blk rb #[.map (some o), vd, vh] 52, .imap o m, .own 34 2 (vd) (due).length ((due).flatMap telC), .own 34 2 (vh) (held).length ((held).flatMap telC), .own 34 2 (av) ((due ++ held)).length (((due ++ held)).flatMap telC), .own 34 2 (xv) ((B2 ++ backG md held p 0)).length (((B2 ++ backG md held p 0)).flatMap telC)]) (by rw [show backG md held p 0 = [] from by unfold backG; rw [back_0]; split <;> rfl, List.append_nil]; (focus ((repeat constructor); done))) ?_
    refine WC.loopK (σ := Nat × Value × Int) [0, 1, 6, 7, 8, 9] (fun s => [(5, s.2.1), (13, i64 s.2.2)]) (fun s => [.blk rb #[.map (some o), vd, vh] 52, .imap o m, .own 34 2 (vd) (due).length ((due).flatMap telC), .own 34 2 (vh) (held).length ((held).flatMap telC), .own 34 2 (av) ((due ++ held)).length (((due ++ held)).flatMap telC), .own 34 2 (s.2.1) ((B2 ++ backG md held p s.1)).length (((B2 ++ backG md held p s.1)).flatMap telC)]) (fun s => s.1 ≤ held.length ∧ s.2.2 = (held.length : Int) - 1 - s.1) (fun s => held.length - s.1) (0, xv, (held.length : Int) - 1) (by (focus ((repeat (first | exact Pick.nil | (apply Pick.cons; exact rfl))); done))) (by (focus ((repeat (first | exact trivial | (refine ⟨rfl, ?_⟩))); done))) (fun _ h => h.keep (by repeat constructor)) ⟨Nat.zero_le _, by simp⟩ (fun s hs => ?_)
    obtain ⟨r, yv, z⟩ := s
    simp only [List.cons_append, List.nil_append] at hs ⊢
    obtain ⟨hr0, rfl⟩ := hs
    by_cases hlt2 : r < held.length
    · have e1 : ((held.length : Int) - 1 - r).toNat = held.length - 1 - r := by omega
      have hGl := backG_len md held p r
      have hln : (B2 ++ backG md held p r).length ≤ 4294967296 := by rw [List.length_append]; omega
      by_cases hc : (held.getD ((held.length : Int) - 1 - r).toNat default).1 = p
      · have hc2 : (held.getD (held.length - 1 - r) default).1 = p := by rw [← e1]; exact hc
        by_cases h5 : md p = 5
        · have hg : backG md held p (r + 1) = backG md held p r := by unfold backG; rw [if_pos h5, if_pos h5]
          repeat first
            | (apply WL.q; exact rfl; exact rfl; exact rfl; (first | (apply EvW.move; exact rfl) | (apply EvW.nilPtr; exact rfl) | (apply EvW.fieldAddr0; exact rfl; exact FldC.eq) | (apply EvW.load; exact rfl; exact ScalC.eq; (focus ((repeat constructor); done)); exact rfl) | (apply EvW.cmpT; exact rfl; exact rfl; exact rfl; omega) | (apply EvW.idxOwn; exact rfl; exact rfl; exact UndC.eq; exact SzC.eq; (focus ((repeat constructor); done)); omega; omega) | (apply EvW.fldOwn; exact rfl; exact FldC.eq; (focus ((repeat constructor); done)); omega) | (apply EvW.ldFldOwn; exact rfl; exact ScalC.eq; (focus ((repeat constructor); done)); exact fun _ => rfl; omega; exact rfl; exact inferInstance) | (apply EvW.lookup; exact rfl; exact rfl; exact UndC.eq; exact UndC.eq; exact ZvC.eq; (focus ((repeat constructor); done)))))
            | refine WC.seq ?_ | refine WC.region ?_ | refine WL.nil ?_ | refine WE.next ?_ | refine WC.block ?_ | refine WC.skip ?_ | refine WC.condT rfl ?_ | refine WL.wanted rfl rfl rfl ?_
          rw [hmd p]
          repeat first
            | (apply WL.q; exact rfl; exact rfl; exact rfl; (first | (apply EvW.move; exact rfl) | (apply EvW.assign; exact rfl) | (apply EvW.cmpF; exact rfl; exact rfl; exact rfl; omega) | (apply EvW.arN; exact rfl; exact rfl; exact rfl; refine i64_in ?_ ?_ <;> omega) | (apply EvW.pickT; exact rfl; exact rfl)))
            | refine WC.region ?_ | refine WL.nil ?_ | refine WE.next ?_ | refine WC.skip ?_ | refine WE.out ?_ | refine WC.condF rfl ?_
          exact WE.again (s := (r, yv, (held.length : Int) - 1 - r)) ((r + 1, yv, (held.length : Int) - 1 - r - 1)) ⟨by simp only []; omega, by simp only []; omega⟩ (by (focus ((repeat (first | exact trivial | (refine ⟨rfl, ?_⟩))); done))) (fun _ h => (by (try simp only []); rw [hg]; exact h.keep (by repeat constructor))) (by (try simp only []); omega)
        · have hg : backG md held p (r + 1) = backG md held p r ++ [held.getD (held.length - 1 - r) default] := by unfold backG; rw [if_neg h5, if_neg h5, back_yes held p r hlt2 hc2]
          repeat first
            | (apply WL.q; exact rfl; exact rfl; exact rfl; (first | (apply EvW.move; exact rfl) | (apply EvW.nilPtr; exact rfl) | (apply EvW.fieldAddr0; exact rfl; exact FldC.eq) | (apply EvW.load; exact rfl; exact ScalC.eq; (focus ((repeat constructor); done)); exact rfl) | (apply EvW.cmpT; exact rfl; exact rfl; exact rfl; omega) | (apply EvW.idxOwn; exact rfl; exact rfl; exact UndC.eq; exact SzC.eq; (focus ((repeat constructor); done)); omega; omega) | (apply EvW.fldOwn; exact rfl; exact FldC.eq; (focus ((repeat constructor); done)); omega) | (apply EvW.ldFldOwn; exact rfl; exact ScalC.eq; (focus ((repeat constructor); done)); exact fun _ => rfl; omega; exact rfl; exact inferInstance) | (apply EvW.lookup; exact rfl; exact rfl; exact UndC.eq; exact UndC.eq; exact ZvC.eq; (focus ((repeat constructor); done)))))
            | refine WC.seq ?_ | refine WC.region ?_ | refine WL.nil ?_ | refine WE.next ?_ | refine WC.block ?_ | refine WC.skip ?_ | refine WC.condT rfl ?_ | refine WL.wanted rfl rfl rfl ?_
          rw [hmd p]
          repeat first
            | (apply WL.q; exact rfl; exact rfl; exact rfl; (first | (apply EvW.move; exact rfl) | (apply EvW.nilPtr; exact rfl) | (apply EvW.fieldAddr0; exact rfl; exact FldC.eq) | (apply EvW.load; exact rfl; exact ScalC.eq; (focus ((repeat constructor); done)); exact rfl) | (apply EvW.cmpT; exact rfl; exact rfl; exact rfl; omega) | (apply EvW.pickT; exact rfl; exact rfl) | (apply EvW.idxOwn; exact rfl; exact rfl; exact UndC.eq; exact SzC.eq; (focus ((repeat constructor); done)); omega; omega)))
            | refine WC.region ?_ | refine WL.nil ?_ | refine WE.next ?_ | refine WC.condT rfl ?_
          try refine WL.wanted rfl rfl rfl ?_
          (apply WL.q; exact rfl; exact rfl; exact rfl; (apply EvW.ldElemOwn (xs := held) (z := (default : Tel)) (f := telC); exact rfl; exact AggC.eq; exact SzC.eq; exact rfl; exact fun _ => rfl; (focus ((repeat constructor); done)); omega))
          rw [e1]
          obtain ⟨t, htt⟩ : ∃ t, held.getD (held.length - 1 - r) default = t := ⟨_, rfl⟩
          rw [htt] at hg ⊢
          try refine WL.wanted rfl rfl rfl ?_
          (apply WL.buildSlice; exact rfl; exact UndC.eq; exact SzC.eq; exact ZvC.eq; exact rfl; exact rfl; exact rfl; ((focus ((repeat (first | exact Flat.nil | (apply Flat.one; (first | exact rfl | assumption)) | (apply Flat.cons; exact rfl; exact rfl))); done))); exact rfl; exact rfl; intro k0)
          skip
          try refine WL.wanted rfl rfl rfl ?_
          (apply WL.append; exact rfl; exact rfl; exact rfl; exact UndC.eq; exact SzC.eq; exact ByC.eq; exact ZvC.eq; exact rfl; (first | exact notInt_sl UndC.eq | exact notInt_st UndC.eq); exact rfl; (focus ((repeat constructor); done)))
          · exact adds_blk .head rfl rfl
          · (omega)
          intro x2
          refine WL.ownEq (cs' := (B2 ++ backG md held p (r + 1)).flatMap telC) (len' := (B2 ++ backG md held p (r + 1)).length) .head (by rw [hg, ← List.append_assoc, len_snoc]) (by rw [hg, List.append_nil, List.flatMap_append, List.flatMap_append, List.flatMap_append, List.append_assoc]; rfl) ?_
          (first | refine WL.slOwn (v := x2) (by repeat constructor) ?_ | refine WC.slOwn (v := x2) (by repeat constructor) ?_)
          intro hc_x2 ho_x2
          repeat first
            | (apply WL.q; exact rfl; exact rfl; exact rfl; (first | (apply EvW.move; exact rfl) | (apply EvW.assign; exact rfl) | (apply EvW.arN; exact rfl; exact rfl; exact rfl; refine i64_in ?_ ?_ <;> omega)))
            | refine WC.region ?_ | refine WL.nil ?_ | refine WE.next ?_ | refine WE.out ?_
          exact WE.again (s := (r, yv, (held.length : Int) - 1 - r)) ((r + 1, x2, (held.length : Int) - 1 - r - 1)) ⟨by simp only []; omega, by simp only []; omega⟩ (by (focus ((repeat (first | exact trivial | (refine ⟨rfl, ?_⟩))); done))) (fun _ h => (by (try simp only []); exact h.keep (by repeat constructor))) (by (try simp only []); omega)
      · have hc2 : (held.getD (held.length - 1 - r) default).1 ≠ p := by rw [← e1]; exact hc
        have hg : backG md held p (r + 1) = backG md held p r := by unfold backG; rw [back_no held p r hlt2 hc2]
        repeat first
          | (apply WL.q; exact rfl; exact rfl; exact rfl; (first | (apply EvW.move; exact rfl) | (apply EvW.assign; exact rfl) | (apply EvW.nilPtr; exact rfl) | (apply EvW.fieldAddr0; exact rfl; exact FldC.eq) | (apply EvW.load; exact rfl; exact ScalC.eq; (focus ((repeat constructor); done)); exact rfl) | (apply EvW.cmpT; exact rfl; exact rfl; exact rfl; omega) | (apply EvW.cmpF; exact rfl; exact rfl; exact rfl; omega) | (apply EvW.arN; exact rfl; exact rfl; exact rfl; refine i64_in ?_ ?_ <;> omega) | (apply EvW.pickF; exact rfl; exact rfl) | (apply EvW.idxOwn; exact rfl; exact rfl; exact UndC.eq; exact SzC.eq; (focus ((repeat constructor); done)); omega; omega) | (apply EvW.fldOwn; exact rfl; exact FldC.eq; (focus ((repeat constructor); done)); omega) | (apply EvW.ldFldOwn; exact rfl; exact ScalC.eq; (focus ((repeat constructor); done)); exact fun _ => rfl; omega; exact rfl; exact inferInstance)))
          | refine WC.seq ?_ | refine WC.region ?_ | refine WL.nil ?_ | refine WE.next ?_ | refine WC.block ?_ | refine WC.skip ?_ | refine WE.out ?_ | refine WC.condT rfl ?_ | refine WC.condF rfl ?_ | refine WL.unwanted rfl rfl rfl rfl ?_
        exact WE.again (s := (r, yv, (held.length : Int) - 1 - r)) ((r + 1, yv, (held.length : Int) - 1 - r - 1)) ⟨by simp only []; omega, by simp only []; omega⟩ (by (focus ((repeat (first | exact trivial | (refine ⟨rfl, ?_⟩))); done))) (fun _ h => (by (try simp only []); rw [hg]; exact h.keep (by repeat constructor))) (by (try simp only []); omega)
    · obtain rfl : r = held.length := by omega
      have hfin : B2 ++ backG md held p held.length = (K.take (j + 1)).flatMap (peerO md due held) := by
        rw [hnxt, ← hB2, List.append_assoc]
        unfold backG peerO
        rw [back_all]
      rw [hfin]
      repeat first
        | (apply WL.q; exact rfl; exact rfl; exact rfl; (first | (apply EvW.move; exact rfl) | (apply EvW.cmpF; exact rfl; exact rfl; exact rfl; omega)))
        | refine WC.seq ?_ | refine WC.region ?_ | refine WL.nil ?_ | refine WE.next ?_ | refine WC.exit ?_ | refine WE.pass ?_ | refine WE.hit ?_ | refine WC.condF rfl ?_
      try refine WL.wanted rfl rfl rfl ?_
      apply WL.callA ([])
      · exact rfl
      · exact rfl
      · exact fun w => Try.call25 _ w
      · (focus ((repeat constructor); done))
      · exact fun w1 S1 hS1 hs1 ho1 => rleast_spec av (due ++ held) p false w1 S1 hS1 (ho1 (.own 34 2 (av) ((due ++ held)).length (((due ++ held)).flatMap telC)) _ (by repeat constructor)).own (by omega)
      rintro _ _ ⟨rfl, rfl⟩
      first | refine WL.app4 ?_ | refine WL.app3 ?_ | refine WL.app2 ?_ | refine WL.app1 ?_ | refine WL.app0 ?_ | skip
      obtain ⟨p1, f1, hq1, hq2⟩ := keyof_next hK hj
      rw [← hp] at hq1
      rw [hq1]
      dsimp only
      repeat first
        | (apply WL.q; exact rfl; exact rfl; exact rfl; (first | (apply EvW.move; exact rfl) | (apply EvW.assign; exact rfl) | (apply EvW.extract; exact rfl; exact rfl)))
        | refine WL.nil ?_ | refine WE.out ?_
      exact WE.again (s := (j, ov, p, true)) ((j + 1, yv, p1, f1)) ⟨by simp only []; omega, hq2⟩ (by (focus ((repeat (first | exact trivial | (refine ⟨rfl, ?_⟩))); done))) (fun _ h => (by (try simp only []); exact h.keep (by repeat constructor))) (by (try simp only []); omega)
  rw [List.take_length]
  have hOl := out_len md due held K hK.lt
  have hfin : (dPass md due held ([] : List Tel) K).1 = K.flatMap (peerO md due held) := rfl
  rw [← hfin]
  refine WC.ownNil 34 2 ?_
  refine WC.ownNil 34 2 ?_
  refine WC.keep (xs := [.blk rb #[.map (some o), vd, vh] 52, .imap o m, .own 34 2 (vd) (due).length ((due).flatMap telC), .own 34 2 (vh) (held).length ((held).flatMap telC), .own 34 2 (ov) ((dPass md due held (l.take 0) K).1).length (((dPass md due held (l.take 0) K).1).flatMap telC), .own 34 2 ((Value.slice none 0 0)) ((dPass md due held (l.take 0) K).2.1).length (((dPass md due held (l.take 0) K).2.1).flatMap telC), .own 34 2 ((Value.slice none 0 0)) (((held.take 0).filter (isHeld md))).length ((((held.take 0).filter (isHeld md))).flatMap telC)]) (by rw [List.take_zero, List.take_zero, List.filter_nil]; (focus ((repeat constructor); done))) ?_
  obtain ⟨D0, hD0⟩ : ∃ D0, dPass md due held (l.take 0) K = D0 := ⟨_, rfl⟩
  rw [hD0]
  repeat first
    | (apply WL.q; exact rfl; exact rfl; exact rfl; (first | (apply EvW.move; exact rfl) | (apply EvW.nilPtr; exact rfl) | (apply EvW.fieldAddr0; exact rfl; exact FldC.eq) | (apply EvW.load; exact rfl; exact ScalC.eq; (focus ((repeat constructor); done)); exact rfl) | (apply EvW.lenOwn; exact rfl; exact UndC.eq; (focus ((repeat constructor); done)))))
    | refine WC.seq ?_ | refine WC.region ?_ | refine WL.nil ?_ | refine WE.next ?_ | refine WC.block ?_ | refine WC.exit ?_ | refine WE.pass ?_ | refine WE.hit ?_ | refine WC.condF rfl ?_
  refine WC.loopK (σ := Nat × Value) [0, 1, 5, 6, 101, 102] (fun s => [(7, s.2), (103, i64 s.1)]) (fun s => [.blk rb #[.map (some o), vd, vh] 52, .imap o m, .own 34 2 (vd) (due).length ((due).flatMap telC), .own 34 2 (vh) (held).length ((held).flatMap telC), .own 34 2 (ov) (D0.1).length ((D0.1).flatMap telC), .own 34 2 ((Value.slice none 0 0)) (D0.2.1).length ((D0.2.1).flatMap telC), .own 34 2 (s.2) (((held.take s.1).filter (isHeld md))).length ((((held.take s.1).filter (isHeld md))).flatMap telC)]) (fun s => s.1 ≤ held.length) (fun s => held.length - s.1) (0, (Value.slice none 0 0)) (by (focus ((repeat (first | exact Pick.nil | (apply Pick.cons; exact rfl))); done))) (by (focus ((repeat (first | exact trivial | (refine ⟨rfl, ?_⟩))); done))) (fun _ h => h.keep (by repeat constructor)) (Nat.zero_le _) (fun s hs => ?_)
  obtain ⟨i, gv⟩ := s
  simp only [List.cons_append, List.nil_append] at hs ⊢
  by_cases hlt : (i : Int) < held.length
  · have hi : i < held.length := by omega
    have hfl : ((held.take i).filter (isHeld md)).length ≤ held.length := Nat.le_trans (List.length_filter_le _ _) (by rw [List.length_take]; omega)
    have hln : ((held.take i).filter (isHeld md)).length ≤ 4294967296 := by omega
    repeat first
      | (apply WL.q; exact rfl; exact rfl; exact rfl; (first | (apply EvW.cmpT; exact rfl; exact rfl; exact rfl; omega) | (apply EvW.idxOwn; exact rfl; exact rfl; exact UndC.eq; exact SzC.eq; (focus ((repeat constructor); done)); omega; omega)))
      | refine WC.seq ?_ | refine WC.region ?_ | refine WL.nil ?_ | refine WE.next ?_ | refine WC.block ?_ | refine WC.skip ?_ | refine WC.condT rfl ?_
    try refine WL.wanted rfl rfl rfl ?_
    (apply WL.q; exact rfl; exact rfl; exact rfl; (apply EvW.ldElemOwn (xs := held) (z := (default : Tel)) (f := telC); exact rfl; exact AggC.eq; exact SzC.eq; exact rfl; exact fun _ => rfl; (focus ((repeat constructor); done)); omega))
    try refine WL.wanted rfl rfl rfl ?_
    (apply WL.alloc; exact rfl; exact ZvC.eq; exact rfl; intro tb)
    rw [show ((i : Nat) : Int).toNat = i from rfl]
    obtain ⟨t, htt⟩ : ∃ t, held.getD i default = t := ⟨_, rfl⟩
    rw [htt]
    repeat first
      | refine WC.seq ?_ | refine WL.nil ?_ | refine WE.next ?_ | (apply WL.store; exact rfl; exact rfl; (first | assumption | exact rfl); exact SzC.eq; (first | assumption | exact rfl); (focus ((repeat constructor); done)))
    by_cases hc : md t.1 = 5
    · have hst := filter_yes (p := isHeld md) held i hi (by rw [htt]; exact decide_eq_true hc)
      rw [htt] at hst
      repeat refine WC.seq ?_
      refine WC.keep (xs := [.blk rb #[.map (some o), vd, vh] 52, .imap o m, .own 34 2 (vd) (due).length ((due).flatMap telC), .own 34 2 (vh) (held).length ((held).flatMap telC), .own 34 2 (ov) (D0.1).length ((D0.1).flatMap telC), .own 34 2 ((Value.slice none 0 0)) (D0.2.1).length ((D0.2.1).flatMap telC), .own 34 2 (gv) (((held.take i).filter (isHeld md))).length ((((held.take i).filter (isHeld md))).flatMap telC), .blk tb #[i64 t.1, str t.2] 34]) (by repeat constructor) ?_
      apply WC.par _ (fun c : Ch => [.blk rb #[.map (some o), vd, vh] 52, .imap o m, .own 34 2 (vd) (due).length ((due).flatMap telC), .own 34 2 (vh) (held).length ((held).flatMap telC), .own 34 2 (ov) (D0.1).length ((D0.1).flatMap telC), .own 34 2 ((Value.slice none 0 0)) (D0.2.1).length ((D0.2.1).flatMap telC), .own 34 2 (gv) (((held.take i).filter (isHeld md))).length ((((held.take i).filter (isHeld md))).flatMap telC), .blk tb #[i64 t.1, str t.2] 34]) [none, none, none, none, none, none, none, none] [none, none, none, none, none, none, none, none] [] Try.mixed
      · (focus ((repeat (first | exact Restr.nil | (apply Restr.keep; exact rfl; exact rfl) | (apply Restr.drop; exact rfl))); done))
      · intro c; exact (by repeat constructor)
      · exact rfl
      · decide +kernel
      · decide +kernel
      · intro c
        (apply Par.quiet _ [true, true, true, true, true, true, true, true]; exact rfl; decide +kernel; exact rfl; intro R; refine ⟨_, (by repeat constructor), ?_⟩;
             (first | (apply EvW.move; exact rfl)))
        (apply Par.quiet _ [true, true, true, true, true, true, true, true]; exact rfl; decide +kernel; exact rfl; intro R; refine ⟨_, (by repeat constructor), ?_⟩;
             (first | (apply EvW.nilPtr; exact rfl)))
        (apply Par.quiet _ [true, true, true, true, true, true, true, true]; exact rfl; decide +kernel; exact rfl; intro R; refine ⟨_, (by repeat constructor), ?_⟩;
             (first | (apply EvW.fieldAddr0; exact rfl; exact FldC.eq)))
        (apply Par.quiet _ [true, true, true, true, true, true, true, true]; exact rfl; decide +kernel; exact rfl; intro R; refine ⟨_, (by repeat constructor), ?_⟩;
             (first | (apply EvW.load; exact rfl; exact ScalC.eq; (focus ((repeat constructor); done)); exact rfl)))
        (apply Par.quiet _ [true, true, true, true, true, true, true, true]; exact rfl; decide +kernel; exact rfl; intro R; refine ⟨_, (by repeat constructor), ?_⟩;
             (first | (apply EvW.fieldAddr0; exact rfl; exact FldC.eq)))
        (apply Par.quiet _ [true, true, true, true, true, true, true, true]; exact rfl; decide +kernel; exact rfl; intro R; refine ⟨_, (by repeat constructor), ?_⟩;
             (first | (apply EvW.load; exact rfl; exact ScalC.eq; (focus ((repeat constructor); done)); exact rfl)))
        apply Par.quiet _ [true, true, true, true, true, true, true, true]
        · exact rfl
        · decide +kernel
        · exact rfl
        · intro R
          refine ⟨_, (by repeat constructor), ?_⟩
          (refine EvW.cast (hmd t.1) ?_; apply EvW.lookup; exact rfl; exact rfl; exact UndC.eq; exact UndC.eq; exact ZvC.eq; (focus ((repeat constructor); done)))
        (apply Par.quiet _ [true, true, true, true, true, true, true, true]; exact rfl; decide +kernel; exact rfl; intro R; refine ⟨_, (by repeat constructor), ?_⟩;
             (first | (apply EvW.cmpT; exact rfl; exact rfl; exact rfl; omega)))
        exact Par.nil
      · repeat (first | exact AllN.nil | (apply AllN.cons; (intro c x; (repeat (first | exact IndA.nil | (apply IndA.skip; decide +kernel) | apply IndA.same))))) 
      · repeat (first | exact AllN.nil | (apply AllN.cons; (intro c x; (repeat (first | exact IndT.nil | (apply IndT.skip; decide +kernel) | apply IndT.same))))) 
      · exact fun _ => rfl
      intro c
      refine ⟨_, (by repeat constructor), ?_⟩
      apply WE.writ
      · (focus ((repeat (first | exact Writ.nil | apply Writ.some | apply Writ.none)); done))
      repeat first
        | (apply WL.q; exact rfl; exact rfl; exact rfl; (first | (apply EvW.move; exact rfl) | (apply EvW.loadAgg; exact rfl; exact AggC.eq; exact SzC.eq; (focus ((repeat constructor); done)); (focus ((repeat (first | exact SubL.nil | apply SubL.cons | apply SubL.succ)); done)))))
        | refine WC.region ?_ | refine WE.next ?_ | refine WC.condT rfl ?_
      try refine WL.wanted rfl rfl rfl ?_
      (apply WL.buildSlice; exact rfl; exact UndC.eq; exact SzC.eq; exact ZvC.eq; exact rfl; exact rfl; exact rfl; ((focus ((repeat (first | exact Flat.nil | (apply Flat.one; (first | exact rfl | assumption)) | (apply Flat.cons; exact rfl; exact rfl))); done))); exact rfl; exact rfl; intro k0)
      skip
      try refine WL.wanted rfl rfl rfl ?_
      (apply WL.append; exact rfl; exact rfl; exact rfl; exact UndC.eq; exact SzC.eq; exact ByC.eq; exact ZvC.eq; exact rfl; (first | exact notInt_sl UndC.eq | exact notInt_st UndC.eq); exact rfl; (focus ((repeat constructor); done)))
      · exact adds_blk .head rfl rfl
      · (omega)
      intro x2
      refine WL.ownEq (cs' := ((held.take (i + 1)).filter (isHeld md)).flatMap telC) (len' := ((held.take (i + 1)).filter (isHeld md)).length) .head (by rw [hst, len_snoc]) (by rw [hst, flat_snoc]; rfl) ?_
      (first | refine WL.slOwn (v := x2) (by repeat constructor) ?_ | refine WC.slOwn (v := x2) (by repeat constructor) ?_)
      intro hc_x2 ho_x2
      repeat first
        | (apply WL.q; exact rfl; exact rfl; exact rfl; (first | (apply EvW.move; exact rfl) | (apply EvW.assign; exact rfl) | (apply EvW.arN; exact rfl; exact rfl; exact rfl; refine i64_in ?_ ?_ <;> omega)))
        | refine WC.region ?_ | refine WL.nil ?_ | refine WE.next ?_ | refine WE.out ?_
      exact WE.again (s := (i, gv)) ((i + 1, x2)) (by simp only []; omega) (by (focus ((repeat (first | exact trivial | (refine ⟨rfl, ?_⟩))); done))) (fun _ h => (by (try simp only []); exact h.keep (by repeat constructor))) (by (try simp only []); omega)
    · have hst := filter_no (p := isHeld md) held i hi (by rw [htt]; exact decide_eq_false hc)
      repeat refine WC.seq ?_
      refine WC.keep (xs := [.blk rb #[.map (some o), vd, vh] 52, .imap o m, .own 34 2 (vd) (due).length ((due).flatMap telC), .own 34 2 (vh) (held).length ((held).flatMap telC), .own 34 2 (ov) (D0.1).length ((D0.1).flatMap telC), .own 34 2 ((Value.slice none 0 0)) (D0.2.1).length ((D0.2.1).flatMap telC), .own 34 2 (gv) (((held.take i).filter (isHeld md))).length ((((held.take i).filter (isHeld md))).flatMap telC), .blk tb #[i64 t.1, str t.2] 34]) (by repeat constructor) ?_
      apply WC.par _ (fun c : Ch => [.blk rb #[.map (some o), vd, vh] 52, .imap o m, .own 34 2 (vd) (due).length ((due).flatMap telC), .own 34 2 (vh) (held).length ((held).flatMap telC), .own 34 2 (ov) (D0.1).length ((D0.1).flatMap telC), .own 34 2 ((Value.slice none 0 0)) (D0.2.1).length ((D0.2.1).flatMap telC), .own 34 2 (gv) (((held.take i).filter (isHeld md))).length ((((held.take i).filter (isHeld md))).flatMap telC), .blk tb #[i64 t.1, str t.2] 34]) [none, none, none, none, none, none, none, none] [none, none, none, none, none, none, none, none] [] Try.mixed
      · (focus ((repeat (first | exact Restr.nil | (apply Restr.keep; exact rfl; exact rfl) | (apply Restr.drop; exact rfl))); done))
      · intro c; exact (by repeat constructor)
      · exact rfl
      · decide +kernel
      · decide +kernel
      · intro c
        (apply Par.quiet _ [true, true, true, true, true, true, true, true]; exact rfl; decide +kernel; exact rfl; intro R; refine ⟨_, (by repeat constructor), ?_⟩;
             (first | (apply EvW.move; exact rfl)))
        (apply Par.quiet _ [true, true, true, true, true, true, true, true]; exact rfl; decide +kernel; exact rfl; intro R; refine ⟨_, (by repeat constructor), ?_⟩;
             (first | (apply EvW.nilPtr; exact rfl)))
        (apply Par.quiet _ [true, true, true, true, true, true, true, true]; exact rfl; decide +kernel; exact rfl; intro R; refine ⟨_, (by repeat constructor), ?_⟩;
             (first | (apply EvW.fieldAddr0; exact rfl; exact FldC.eq)))
        (apply Par.quiet _ [true, true, true, true, true, true, true, true]; exact rfl; decide +kernel; exact rfl; intro R; refine ⟨_, (by repeat constructor), ?_⟩;
             (first | (apply EvW.load; exact rfl; exact ScalC.eq; (focus ((repeat constructor); done)); exact rfl)))
        (apply Par.quiet _ [true, true, true, true, true, true, true, true]; exact rfl; decide +kernel; exact rfl; intro R; refine ⟨_, (by repeat constructor), ?_⟩;
             (first | (apply EvW.fieldAddr0; exact rfl; exact FldC.eq)))
        (apply Par.quiet _ [true, true, true, true, true, true, true, true]; exact rfl; decide +kernel; exact rfl; intro R; refine ⟨_, (by repeat constructor), ?_⟩;
             (first | (apply EvW.load; exact rfl; exact ScalC.eq; (focus ((repeat constructor); done)); exact rfl)))
        apply Par.quiet _ [true, true, true, true, true, true, true, true]
        · exact rfl
        · decide +kernel
        · exact rfl
        · intro R
          refine ⟨_, (by repeat constructor), ?_⟩
          (refine EvW.cast (hmd t.1) ?_; apply EvW.lookup; exact rfl; exact rfl; exact UndC.eq; exact UndC.eq; exact ZvC.eq; (focus ((repeat constructor); done)))
        (apply Par.quiet _ [true, true, true, true, true, true, true, true]; exact rfl; decide +kernel; exact rfl; intro R; refine ⟨_, (by repeat constructor), ?_⟩;
             (first | (apply EvW.cmpF; exact rfl; exact rfl; exact rfl; omega)))
        exact Par.nil
      · repeat (first | exact AllN.nil | (apply AllN.cons; (intro c x; (repeat (first | exact IndA.nil | (apply IndA.skip; decide +kernel) | apply IndA.same))))) 
      · repeat (first | exact AllN.nil | (apply AllN.cons; (intro c x; (repeat (first | exact IndT.nil | (apply IndT.skip; decide +kernel) | apply IndT.same))))) 
      · exact fun _ => rfl
      intro c
      refine ⟨_, (by repeat constructor), ?_⟩
      apply WE.writ
      · (focus ((repeat (first | exact Writ.nil | apply Writ.some | apply Writ.none)); done))
      repeat first
        | (apply WL.q; exact rfl; exact rfl; exact rfl; (first | (apply EvW.move; exact rfl) | (apply EvW.arN; exact rfl; exact rfl; exact rfl; refine i64_in ?_ ?_ <;> omega)))
        | refine WC.region ?_ | refine WL.nil ?_ | refine WE.next ?_ | refine WC.skip ?_ | refine WE.out ?_ | refine WC.condF rfl ?_
      exact WE.again (s := (i, gv)) ((i + 1, gv)) (by simp only []; omega) (by (focus ((repeat (first | exact trivial | (refine ⟨rfl, ?_⟩))); done))) (fun _ h => (by (try simp only []); rw [hst]; exact h.keep (by repeat constructor))) (by (try simp only []); omega)
  obtain rfl : i = held.length := by omega
  rw [List.take_length]
  refine WC.keep (xs := [.blk rb #[.map (some o), vd, vh] 52, .imap o m, .own 34 2 (vd) (due).length ((due).flatMap telC), .own 34 2 (vh) (held).length ((held).flatMap telC), .own 34 2 (ov) ((dPass md due held (l.take 0) K).1).length (((dPass md due held (l.take 0) K).1).flatMap telC), .own 34 2 ((Value.slice none 0 0)) ((dPass md due held (l.take 0) K).2.1).length (((dPass md due held (l.take 0) K).2.1).flatMap telC), .own 34 2 (gv) ((dPass md due held (l.take 0) K).2.2).length (((dPass md due held (l.take 0) K).2.2).flatMap telC)]) (by rw [hD0, show D0.2.2 = held.filter (isHeld md) from by rw [← hD0, List.take_zero]; rfl]; (focus ((repeat constructor); done))) ?_
  repeat first
    | (apply WL.q; exact rfl; exact rfl; exact rfl; (first | (apply EvW.move; exact rfl) | (apply EvW.cmpF; exact rfl; exact rfl; exact rfl; omega) | (apply EvW.lenRow; exact rfl; exact UndC.eq; assumption)))
    | refine WC.seq ?_ | refine WC.region ?_ | refine WL.nil ?_ | refine WE.next ?_ | refine WC.block ?_ | refine WC.exit ?_ | refine WE.pass ?_ | refine WE.hit ?_ | refine WC.condF rfl ?_
  refine WC.loopK (σ := Nat × Value × Value × Value) [0, 120, 121] (fun s => [(5, s.2.1), (6, s.2.2.1), (7, s.2.2.2), (122, i64 s.1)]) (fun s => [.blk rb #[.map (some o), vd, vh] 52, .imap o m, .own 34 2 (vd) (due).length ((due).flatMap telC), .own 34 2 (vh) (held).length ((held).flatMap telC), .own 34 2 (s.2.1) ((dPass md due held (l.take s.1) K).1).length (((dPass md due held (l.take s.1) K).1).flatMap telC), .own 34 2 (s.2.2.1) ((dPass md due held (l.take s.1) K).2.1).length (((dPass md due held (l.take s.1) K).2.1).flatMap telC), .own 34 2 (s.2.2.2) ((dPass md due held (l.take s.1) K).2.2).length (((dPass md due held (l.take s.1) K).2.2).flatMap telC)]) (fun s => s.1 ≤ l.length) (fun s => l.length - s.1) (0, ov, (Value.slice none 0 0), gv) (by (focus ((repeat (first | exact Pick.nil | (apply Pick.cons; exact rfl))); done))) (by (focus ((repeat (first | exact trivial | (refine ⟨rfl, ?_⟩))); done))) (fun _ h => h.keep (by repeat constructor)) (Nat.zero_le _) (fun s hs => ?_)
  obtain ⟨i, ov, dv, gv⟩ := s
  simp only [List.cons_append, List.nil_append] at hs ⊢
  by_cases hlt : (i : Int) < l.length
  · have hi : i < l.length := by omega
    obtain ⟨hL1, hL2, hL3⟩ := dpass_len md due held (l.take i) K hK.lt
    have hstep := dPass_take md due held l K i hi
    have htl : (l.getD i default).2.length ≤ 140737488355328 := by
      rw [List.getD_eq_getElem?_getD, List.getElem?_eq_getElem hi]; exact ht _ (List.getElem_mem hi)
    obtain ⟨D, hD⟩ : ∃ D, dPass md due held (l.take i) K = D := ⟨_, rfl⟩
    have hlti : (l.take i).length ≤ l.length := by rw [List.length_take]; omega
    rw [hD] at hL1 hL2 hL3 hstep ⊢
    obtain ⟨t, htt⟩ : ∃ t, l.getD i default = t := ⟨_, rfl⟩
    rw [htt] at hstep htl
    have hq1 : D.1.length ≤ 4294967296 := by omega
    have hq2 : D.2.1.length ≤ 4294967296 := by omega
    have hq3 : D.2.2.length ≤ 4294967296 := by omega
    repeat first
      | (apply WL.q; exact rfl; exact rfl; exact rfl; (first | (apply EvW.cmpT; exact rfl; exact rfl; exact rfl; omega) | (apply EvW.idxRow; exact rfl; exact rfl; exact UndC.eq; exact SzC.eq; assumption; omega; omega)))
      | refine WC.seq ?_ | refine WC.region ?_ | refine WL.nil ?_ | refine WE.next ?_ | refine WC.block ?_ | refine WC.skip ?_ | refine WC.condT rfl ?_
    (apply WL.q; exact rfl; exact rfl; exact rfl; (apply EvW.ldElem (xs := l) (z := (default : Tel)) (f := telC); exact rfl; exact AggC.eq; exact SzC.eq; exact rfl; exact fun _ => rfl; assumption; omega))
    try refine WL.wanted rfl rfl rfl ?_
    (apply WL.alloc; exact rfl; exact ZvC.eq; exact rfl; intro tb)
    rw [show ((i : Nat) : Int).toNat = i from rfl, htt]
    repeat first
      | refine WC.seq ?_ | refine WL.nil ?_ | refine WE.next ?_ | (apply WL.store; exact rfl; exact rfl; (first | assumption | exact rfl); exact SzC.eq; (first | assumption | exact rfl); (focus ((repeat constructor); done)))
    by_cases h0 : md t.1 = 0
    · have hnx : dPass md due held (l.take (i + 1)) K = (D.1 ++ [t], D.2.1, D.2.2) := by rw [hstep]; unfold dStep; rw [if_pos h0]
      repeat refine WC.seq ?_
      refine WC.keep (xs := [.blk rb #[.map (some o), vd, vh] 52, .imap o m, .own 34 2 (vd) (due).length ((due).flatMap telC), .own 34 2 (vh) (held).length ((held).flatMap telC), .own 34 2 (ov) (D.1).length ((D.1).flatMap telC), .own 34 2 (dv) (D.2.1).length ((D.2.1).flatMap telC), .own 34 2 (gv) (D.2.2).length ((D.2.2).flatMap telC), .blk tb #[i64 t.1, str t.2] 34]) (by repeat constructor) ?_
      apply WC.par _ (fun c : Ch => [.blk rb #[.map (some o), vd, vh] 52, .imap o m, .own 34 2 (vd) (due).length ((due).flatMap telC), .own 34 2 (vh) (held).length ((held).flatMap telC), .own 34 2 (ov) (D.1).length ((D.1).flatMap telC), .own 34 2 (dv) (D.2.1).length ((D.2.1).flatMap telC), .own 34 2 (gv) (D.2.2).length ((D.2.2).flatMap telC), .blk tb #[i64 t.1, str t.2] 34]) [none, none, none, none, none, none, none, none] [none, none, none, none, none, none, none, none] [] Try.mixed
      · (focus ((repeat (first | exact Restr.nil | (apply Restr.keep; exact rfl; exact rfl) | (apply Restr.drop; exact rfl))); done))
      · intro c; exact (by repeat constructor)
      · exact rfl
      · decide +kernel
      · decide +kernel
      · intro c
        (apply Par.quiet _ [true, true, true, true, true, true, true, true]; exact rfl; decide +kernel; exact rfl; intro R; refine ⟨_, (by repeat constructor), ?_⟩;
             (first | (apply EvW.move; exact rfl)))
        (apply Par.quiet _ [true, true, true, true, true, true, true, true]; exact rfl; decide +kernel; exact rfl; intro R; refine ⟨_, (by repeat constructor), ?_⟩;
             (first | (apply EvW.nilPtr; exact rfl)))
        (apply Par.quiet _ [true, true, true, true, true, true, true, true]; exact rfl; decide +kernel; exact rfl; intro R; refine ⟨_, (by repeat constructor), ?_⟩;
             (first | (apply EvW.fieldAddr0; exact rfl; exact FldC.eq)))
        (apply Par.quiet _ [true, true, true, true, true, true, true, true]; exact rfl; decide +kernel; exact rfl; intro R; refine ⟨_, (by repeat constructor), ?_⟩;
             (first | (apply EvW.load; exact rfl; exact ScalC.eq; (focus ((repeat constructor); done)); exact rfl)))
        (apply Par.quiet _ [true, true, true, true, true, true, true, true]; exact rfl; decide +kernel; exact rfl; intro R; refine ⟨_, (by repeat constructor), ?_⟩;
             (first | (apply EvW.fieldAddr0; exact rfl; exact FldC.eq)))
        (apply Par.quiet _ [true, true, true, true, true, true, true, true]; exact rfl; decide +kernel; exact rfl; intro R; refine ⟨_, (by repeat constructor), ?_⟩;
             (first | (apply EvW.load; exact rfl; exact ScalC.eq; (focus ((repeat constructor); done)); exact rfl)))
        apply Par.quiet _ [true, true, true, true, true, true, true, true]
        · exact rfl
        · decide +kernel
        · exact rfl
        · intro R
          refine ⟨_, (by repeat constructor), ?_⟩
          (refine EvW.cast (hmd t.1) ?_; apply EvW.lookup; exact rfl; exact rfl; exact UndC.eq; exact UndC.eq; exact ZvC.eq; (focus ((repeat constructor); done)))
        exact Par.nil
      · repeat (first | exact AllN.nil | (apply AllN.cons; (intro c x; (repeat (first | exact IndA.nil | (apply IndA.skip; decide +kernel) | apply IndA.same))))) 
      · repeat (first | exact AllN.nil | (apply AllN.cons; (intro c x; (repeat (first | exact IndT.nil | (apply IndT.skip; decide +kernel) | apply IndT.same))))) 
      · exact fun _ => rfl
      intro c
      refine ⟨_, (by repeat constructor), ?_⟩
      apply WE.writ
      · (focus ((repeat (first | exact Writ.nil | apply Writ.some | apply Writ.none)); done))
      repeat first
        | (apply WL.q; exact rfl; exact rfl; exact rfl; (first | (apply EvW.move; exact rfl) | (apply EvW.assign; exact rfl) | (apply EvW.cmpT; exact rfl; exact rfl; exact rfl; omega) | (apply EvW.loadAgg; exact rfl; exact AggC.eq; exact SzC.eq; (focus ((repeat constructor); done)); (focus ((repeat (first | exact SubL.nil | apply SubL.cons | apply SubL.succ)); done)))))
        | refine WC.seq ?_ | refine WC.region ?_ | refine WL.nil ?_ | refine WE.next ?_ | refine WC.block ?_ | refine WC.condT rfl ?_
      try refine WL.wanted rfl rfl rfl ?_
      (apply WL.buildSlice; exact rfl; exact UndC.eq; exact SzC.eq; exact ZvC.eq; exact rfl; exact rfl; exact rfl; ((focus ((repeat (first | exact Flat.nil | (apply Flat.one; (first | exact rfl | assumption)) | (apply Flat.cons; exact rfl; exact rfl))); done))); exact rfl; exact rfl; intro k0)
      skip
      try refine WL.wanted rfl rfl rfl ?_
      (apply WL.append; exact rfl; exact rfl; exact rfl; exact UndC.eq; exact SzC.eq; exact ByC.eq; exact ZvC.eq; exact rfl; (first | exact notInt_sl UndC.eq | exact notInt_st UndC.eq); exact rfl; (focus ((repeat constructor); done)))
      · exact adds_blk .head rfl rfl
      · (omega)
      intro x2
      refine WL.ownEq (cs' := (D.1 ++ [t]).flatMap telC) (len' := (D.1 ++ [t]).length) .head (by rw [len_snoc]) (by rw [flat_snoc]; rfl) ?_
      (first | refine WL.slOwn (v := x2) (by repeat constructor) ?_ | refine WC.slOwn (v := x2) (by repeat constructor) ?_)
      intro hc_x2 ho_x2
      repeat first
        | (apply WL.q; exact rfl; exact rfl; exact rfl; (first | (apply EvW.move; exact rfl) | (apply EvW.assign; exact rfl) | (apply EvW.arN; exact rfl; exact rfl; exact rfl; refine i64_in ?_ ?_ <;> omega)))
        | refine WC.region ?_ | refine WL.nil ?_ | refine WE.next ?_ | refine WE.out ?_
      exact WE.again (s := (i, ov, dv, gv)) ((i + 1, x2, dv, gv)) (by simp only []; omega) (by (focus ((repeat (first | exact trivial | (refine ⟨rfl, ?_⟩))); done))) (fun _ h => (by (try simp only []); rw [hnx]; exact h.keep (by repeat constructor))) (by (try simp only []); omega)
    by_cases h2 : md t.1 = 2
    · have hnx : dPass md due held (l.take (i + 1)) K = (D.1, D.2.1 ++ [t], D.2.2) := by rw [hstep]; unfold dStep; rw [if_neg h0, if_pos h2]
      repeat refine WC.seq ?_
      refine WC.keep (xs := [.blk rb #[.map (some o), vd, vh] 52, .imap o m, .own 34 2 (vd) (due).length ((due).flatMap telC), .own 34 2 (vh) (held).length ((held).flatMap telC), .own 34 2 (ov) (D.1).length ((D.1).flatMap telC), .own 34 2 (dv) (D.2.1).length ((D.2.1).flatMap telC), .own 34 2 (gv) (D.2.2).length ((D.2.2).flatMap telC), .blk tb #[i64 t.1, str t.2] 34]) (by repeat constructor) ?_
      apply WC.par _ (fun c : Ch => [.blk rb #[.map (some o), vd, vh] 52, .imap o m, .own 34 2 (vd) (due).length ((due).flatMap telC), .own 34 2 (vh) (held).length ((held).flatMap telC), .own 34 2 (ov) (D.1).length ((D.1).flatMap telC), .own 34 2 (dv) (D.2.1).length ((D.2.1).flatMap telC), .own 34 2 (gv) (D.2.2).length ((D.2.2).flatMap telC), .blk tb #[i64 t.1, str t.2] 34]) [none, none, none, none, none, none, none, none] [none, none, none, none, none, none, none, none] [] Try.mixed
      · (focus ((repeat (first | exact Restr.nil | (apply Restr.keep; exact rfl; exact rfl) | (apply Restr.drop; exact rfl))); done))
      · intro c; exact (by repeat constructor)
      · exact rfl
      · decide +kernel
      · decide +kernel
      · intro c
        (apply Par.quiet _ [true, true, true, true, true, true, true, true]; exact rfl; decide +kernel; exact rfl; intro R; refine ⟨_, (by repeat constructor), ?_⟩;
             (first | (apply EvW.move; exact rfl)))
        (apply Par.quiet _ [true, true, true, true, true, true, true, true]; exact rfl; decide +kernel; exact rfl; intro R; refine ⟨_, (by repeat constructor), ?_⟩;
             (first | (apply EvW.nilPtr; exact rfl)))
        (apply Par.quiet _ [true, true, true, true, true, true, true, true]; exact rfl; decide +kernel; exact rfl; intro R; refine ⟨_, (by repeat constructor), ?_⟩;
             (first | (apply EvW.fieldAddr0; exact rfl; exact FldC.eq)))
        (apply Par.quiet _ [true, true, true, true, true, true, true, true]; exact rfl; decide +kernel; exact rfl; intro R; refine ⟨_, (by repeat constructor), ?_⟩;
             (first | (apply EvW.load; exact rfl; exact ScalC.eq; (focus ((repeat constructor); done)); exact rfl)))
        (apply Par.quiet _ [true, true, true, true, true, true, true, true]; exact rfl; decide +kernel; exact rfl; intro R; refine ⟨_, (by repeat constructor), ?_⟩;
             (first | (apply EvW.fieldAddr0; exact rfl; exact FldC.eq)))
        (apply Par.quiet _ [true, true, true, true, true, true, true, true]; exact rfl; decide +kernel; exact rfl; intro R; refine ⟨_, (by repeat constructor), ?_⟩;
             (first | (apply EvW.load; exact rfl; exact ScalC.eq; (focus ((repeat constructor); done)); exact rfl)))
        apply Par.quiet _ [true, true, true, true, true, true, true, true]
        · exact rfl
        · decide +kernel
        · exact rfl
        · intro R
          refine ⟨_, (by repeat constructor), ?_⟩
          (refine EvW.cast (hmd t.1) ?_; apply EvW.lookup; exact rfl; exact rfl; exact UndC.eq; exact UndC.eq; exact ZvC.eq; (focus ((repeat constructor); done)))
        exact Par.nil
      · repeat (first | exact AllN.nil | (apply AllN.cons; (intro c x; (repeat (first | exact IndA.nil | (apply IndA.skip; decide +kernel) | apply IndA.same))))) 
      · repeat (first | exact AllN.nil | (apply AllN.cons; (intro c x; (repeat (first | exact IndT.nil | (apply IndT.skip; decide +kernel) | apply IndT.same))))) 
      · exact fun _ => rfl
      intro c
      refine ⟨_, (by repeat constructor), ?_⟩
      apply WE.writ
      · (focus ((repeat (first | exact Writ.nil | apply Writ.some | apply Writ.none)); done))
      repeat first
        | (apply WL.q; exact rfl; exact rfl; exact rfl; (first | (apply EvW.move; exact rfl) | (apply EvW.assign; exact rfl) | (apply EvW.cmpT; exact rfl; exact rfl; exact rfl; omega) | (apply EvW.cmpF; exact rfl; exact rfl; exact rfl; omega) | (apply EvW.loadAgg; exact rfl; exact AggC.eq; exact SzC.eq; (focus ((repeat constructor); done)); (focus ((repeat (first | exact SubL.nil | apply SubL.cons | apply SubL.succ)); done)))))
        | refine WC.seq ?_ | refine WC.region ?_ | refine WL.nil ?_ | refine WE.next ?_ | refine WC.block ?_ | refine WC.condT rfl ?_ | refine WC.condF rfl ?_
      try refine WL.wanted rfl rfl rfl ?_
      (apply WL.buildSlice; exact rfl; exact UndC.eq; exact SzC.eq; exact ZvC.eq; exact rfl; exact rfl; exact rfl; ((focus ((repeat (first | exact Flat.nil | (apply Flat.one; (first | exact rfl | assumption)) | (apply Flat.cons; exact rfl; exact rfl))); done))); exact rfl; exact rfl; intro k0)
      skip
      try refine WL.wanted rfl rfl rfl ?_
      (apply WL.append; exact rfl; exact rfl; exact rfl; exact UndC.eq; exact SzC.eq; exact ByC.eq; exact ZvC.eq; exact rfl; (first | exact notInt_sl UndC.eq | exact notInt_st UndC.eq); exact rfl; (focus ((repeat constructor); done)))
      · exact adds_blk .head rfl rfl
      · (omega)
      intro x2
      refine WL.ownEq (cs' := (D.2.1 ++ [t]).flatMap telC) (len' := (D.2.1 ++ [t]).length) .head (by rw [len_snoc]) (by rw [flat_snoc]; rfl) ?_
      (first | refine WL.slOwn (v := x2) (by repeat constructor) ?_ | refine WC.slOwn (v := x2) (by repeat constructor) ?_)
      intro hc_x2 ho_x2
      repeat first
        | (apply WL.q; exact rfl; exact rfl; exact rfl; (first | (apply EvW.move; exact rfl) | (apply EvW.assign; exact rfl) | (apply EvW.arN; exact rfl; exact rfl; exact rfl; refine i64_in ?_ ?_ <;> omega)))
        | refine WC.region ?_ | refine WL.nil ?_ | refine WE.next ?_ | refine WE.out ?_
      exact WE.again (s := (i, ov, dv, gv)) ((i + 1, ov, x2, gv)) (by simp only []; omega) (by (focus ((repeat (first | exact trivial | (refine ⟨rfl, ?_⟩))); done))) (fun _ h => (by (try simp only []); rw [hnx]; exact h.keep (by repeat constructor))) (by (try simp only []); omega)
    by_cases h3 : md t.1 = 3
    · have hnx : dPass md due held (l.take (i + 1)) K = (D.1 ++ [t], D.2.1 ++ [t], D.2.2) := by rw [hstep]; unfold dStep; rw [if_neg h0, if_neg h2, if_pos h3]
      repeat refine WC.seq ?_
      refine WC.keep (xs := [.blk rb #[.map (some o), vd, vh] 52, .imap o m, .own 34 2 (vd) (due).length ((due).flatMap telC), .own 34 2 (vh) (held).length ((held).flatMap telC), .own 34 2 (ov) (D.1).length ((D.1).flatMap telC), .own 34 2 (dv) (D.2.1).length ((D.2.1).flatMap telC), .own 34 2 (gv) (D.2.2).length ((D.2.2).flatMap telC), .blk tb #[i64 t.1, str t.2] 34]) (by repeat constructor) ?_
      apply WC.par _ (fun c : Ch => [.blk rb #[.map (some o), vd, vh] 52, .imap o m, .own 34 2 (vd) (due).length ((due).flatMap telC), .own 34 2 (vh) (held).length ((held).flatMap telC), .own 34 2 (ov) (D.1).length ((D.1).flatMap telC), .own 34 2 (dv) (D.2.1).length ((D.2.1).flatMap telC), .own 34 2 (gv) (D.2.2).length ((D.2.2).flatMap telC), .blk tb #[i64 t.1, str t.2] 34]) [none, none, none, none, none, none, none, none] [none, none, none, none, none, none, none, none] [] Try.mixed
      · (focus ((repeat (first | exact Restr.nil | (apply Restr.keep; exact rfl; exact rfl) | (apply Restr.drop; exact rfl))); done))
      · intro c; exact (by repeat constructor)
      · exact rfl
      · decide +kernel
      · decide +kernel
      · intro c
        (apply Par.quiet _ [true, true, true, true, true, true, true, true]; exact rfl; decide +kernel; exact rfl; intro R; refine ⟨_, (by repeat constructor), ?_⟩;
             (first | (apply EvW.move; exact rfl)))
        (apply Par.quiet _ [true, true, true, true, true, true, true, true]; exact rfl; decide +kernel; exact rfl; intro R; refine ⟨_, (by repeat constructor), ?_⟩;
             (first | (apply EvW.nilPtr; exact rfl)))
        (apply Par.quiet _ [true, true, true, true, true, true, true, true]; exact rfl; decide +kernel; exact rfl; intro R; refine ⟨_, (by repeat constructor), ?_⟩;
             (first | (apply EvW.fieldAddr0; exact rfl; exact FldC.eq)))
        (apply Par.quiet _ [true, true, true, true, true, true, true, true]; exact rfl; decide +kernel; exact rfl; intro R; refine ⟨_, (by repeat constructor), ?_⟩;
             (first | (apply EvW.load; exact rfl; exact ScalC.eq; (focus ((repeat constructor); done)); exact rfl)))
        (apply Par.quiet _ [true, true, true, true, true, true, true, true]; exact rfl; decide +kernel; exact rfl; intro R; refine ⟨_, (by repeat constructor), ?_⟩;
             (first | (apply EvW.fieldAddr0; exact rfl; exact FldC.eq)))
        (apply Par.quiet _ [true, true, true, true, true, true, true, true]; exact rfl; decide +kernel; exact rfl; intro R; refine ⟨_, (by repeat constructor), ?_⟩;
             (first | (apply EvW.load; exact rfl; exact ScalC.eq; (focus ((repeat constructor); done)); exact rfl)))
        apply Par.quiet _ [true, true, true, true, true, true, true, true]
        · exact rfl
        · decide +kernel
        · exact rfl
        · intro R
          refine ⟨_, (by repeat constructor), ?_⟩
          (refine EvW.cast (hmd t.1) ?_; apply EvW.lookup; exact rfl; exact rfl; exact UndC.eq; exact UndC.eq; exact ZvC.eq; (focus ((repeat constructor); done)))
        exact Par.nil
      · repeat (first | exact AllN.nil | (apply AllN.cons; (intro c x; (repeat (first | exact IndA.nil | (apply IndA.skip; decide +kernel) | apply IndA.same))))) 
      · repeat (first | exact AllN.nil | (apply AllN.cons; (intro c x; (repeat (first | exact IndT.nil | (apply IndT.skip; decide +kernel) | apply IndT.same))))) 
      · exact fun _ => rfl
      intro c
      refine ⟨_, (by repeat constructor), ?_⟩
      apply WE.writ
      · (focus ((repeat (first | exact Writ.nil | apply Writ.some | apply Writ.none)); done))
      repeat first
        | (apply WL.q; exact rfl; exact rfl; exact rfl; (first | (apply EvW.move; exact rfl) | (apply EvW.assign; exact rfl) | (apply EvW.cmpT; exact rfl; exact rfl; exact rfl; omega) | (apply EvW.cmpF; exact rfl; exact rfl; exact rfl; omega) | (apply EvW.loadAgg; exact rfl; exact AggC.eq; exact SzC.eq; (focus ((repeat constructor); done)); (focus ((repeat (first | exact SubL.nil | apply SubL.cons | apply SubL.succ)); done)))))
        | refine WC.seq ?_ | refine WC.region ?_ | refine WL.nil ?_ | refine WE.next ?_ | refine WC.block ?_ | refine WC.condT rfl ?_ | refine WC.condF rfl ?_
      try refine WL.wanted rfl rfl rfl ?_
      (apply WL.buildSlice; exact rfl; exact UndC.eq; exact SzC.eq; exact ZvC.eq; exact rfl; exact rfl; exact rfl; ((focus ((repeat (first | exact Flat.nil | (apply Flat.one; (first | exact rfl | assumption)) | (apply Flat.cons; exact rfl; exact rfl))); done))); exact rfl; exact rfl; intro k0)
      skip
      try refine WL.wanted rfl rfl rfl ?_
      (apply WL.append; exact rfl; exact rfl; exact rfl; exact UndC.eq; exact SzC.eq; exact ByC.eq; exact ZvC.eq; exact rfl; (first | exact notInt_sl UndC.eq | exact notInt_st UndC.eq); exact rfl; (focus ((repeat constructor); done)))
      · exact adds_blk .head rfl rfl
      · (omega)
      intro x2
      refine WL.ownEq (cs' := (D.1 ++ [t]).flatMap telC) (len' := (D.1 ++ [t]).length) .head (by rw [len_snoc]) (by rw [flat_snoc]; rfl) ?_
      (first | refine WL.slOwn (v := x2) (by repeat constructor) ?_ | refine WC.slOwn (v := x2) (by repeat constructor) ?_)
      intro hc_x2 ho_x2
      repeat first
        | (apply WL.q; exact rfl; exact rfl; exact rfl; (first | (apply EvW.move; exact rfl) | (apply EvW.assign; exact rfl) | (apply EvW.loadAgg; exact rfl; exact AggC.eq; exact SzC.eq; (focus ((repeat constructor); done)); (focus ((repeat (first | exact SubL.nil | apply SubL.cons | apply SubL.succ)); done)))))
        | refine WC.region ?_ | refine WL.nil ?_ | refine WE.next ?_
      try refine WL.wanted rfl rfl rfl ?_
      (apply WL.buildSlice; exact rfl; exact UndC.eq; exact SzC.eq; exact ZvC.eq; exact rfl; exact rfl; exact rfl; ((focus ((repeat (first | exact Flat.nil | (apply Flat.one; (first | exact rfl | assumption)) | (apply Flat.cons; exact rfl; exact rfl))); done))); exact rfl; exact rfl; intro k1)
      skip
      try refine WL.wanted rfl rfl rfl ?_
      (apply WL.append; exact rfl; exact rfl; exact rfl; exact UndC.eq; exact SzC.eq; exact ByC.eq; exact ZvC.eq; exact rfl; (first | exact notInt_sl UndC.eq | exact notInt_st UndC.eq); exact rfl; (focus ((repeat constructor); done)))
      · exact adds_blk .head rfl rfl
      · (omega)
      intro x3
      refine WL.ownEq (cs' := (D.2.1 ++ [t]).flatMap telC) (len' := (D.2.1 ++ [t]).length) .head (by rw [len_snoc]) (by rw [flat_snoc]; rfl) ?_
      (first | refine WL.slOwn (v := x3) (by repeat constructor) ?_ | refine WC.slOwn (v := x3) (by repeat constructor) ?_)
      intro hc_x3 ho_x3
      repeat first
        | (apply WL.q; exact rfl; exact rfl; exact rfl; (first | (apply EvW.move; exact rfl) | (apply EvW.assign; exact rfl) | (apply EvW.arN; exact rfl; exact rfl; exact rfl; refine i64_in ?_ ?_ <;> omega)))
        | refine WC.region ?_ | refine WL.nil ?_ | refine WE.next ?_ | refine WE.out ?_
      exact WE.again (s := (i, ov, dv, gv)) ((i + 1, x2, x3, gv)) (by simp only []; omega) (by (focus ((repeat (first | exact trivial | (refine ⟨rfl, ?_⟩))); done))) (fun _ h => (by (try simp only []); rw [hnx]; exact h.keep (by repeat constructor))) (by (try simp only []); omega)
    by_cases h4 : md t.1 = 4
    · have hnx : dPass md due held (l.take (i + 1)) K = (D.1 ++ [(t.1, spoilF t.2)], D.2.1, D.2.2) := by rw [hstep]; unfold dStep; rw [if_neg h0, if_neg h2, if_neg h3, if_pos h4]
      repeat refine WC.seq ?_
      refine WC.keep (xs := [.blk rb #[.map (some o), vd, vh] 52, .imap o m, .own 34 2 (vd) (due).length ((due).flatMap telC), .own 34 2 (vh) (held).length ((held).flatMap telC), .own 34 2 (ov) (D.1).length ((D.1).flatMap telC), .own 34 2 (dv) (D.2.1).length ((D.2.1).flatMap telC), .own 34 2 (gv) (D.2.2).length ((D.2.2).flatMap telC), .blk tb #[i64 t.1, str t.2] 34]) (by repeat constructor) ?_
      apply WC.par _ (fun c : Ch => [.blk rb #[.map (some o), vd, vh] 52, .imap o m, .own 34 2 (vd) (due).length ((due).flatMap telC), .own 34 2 (vh) (held).length ((held).flatMap telC), .own 34 2 (ov) (D.1).length ((D.1).flatMap telC), .own 34 2 (dv) (D.2.1).length ((D.2.1).flatMap telC), .own 34 2 (gv) (D.2.2).length ((D.2.2).flatMap telC), .blk tb #[i64 t.1, str t.2] 34]) [none, none, none, none, none, none, none, none] [none, none, none, none, none, none, none, none] [] Try.mixed
      · (focus ((repeat (first | exact Restr.nil | (apply Restr.keep; exact rfl; exact rfl) | (apply Restr.drop; exact rfl))); done))
      · intro c; exact (by repeat constructor)
      · exact rfl
      · decide +kernel
      · decide +kernel
      · intro c
        (apply Par.quiet _ [true, true, true, true, true, true, true, true]; exact rfl; decide +kernel; exact rfl; intro R; refine ⟨_, (by repeat constructor), ?_⟩;
             (first | (apply EvW.move; exact rfl)))
        (apply Par.quiet _ [true, true, true, true, true, true, true, true]; exact rfl; decide +kernel; exact rfl; intro R; refine ⟨_, (by repeat constructor), ?_⟩;
             (first | (apply EvW.nilPtr; exact rfl)))
        (apply Par.quiet _ [true, true, true, true, true, true, true, true]; exact rfl; decide +kernel; exact rfl; intro R; refine ⟨_, (by repeat constructor), ?_⟩;
             (first | (apply EvW.fieldAddr0; exact rfl; exact FldC.eq)))
        (apply Par.quiet _ [true, true, true, true, true, true, true, true]; exact rfl; decide +kernel; exact rfl; intro R; refine ⟨_, (by repeat constructor), ?_⟩;
             (first | (apply EvW.load; exact rfl; exact ScalC.eq; (focus ((repeat constructor); done)); exact rfl)))
        (apply Par.quiet _ [true, true, true, true, true, true, true, true]; exact rfl; decide +kernel; exact rfl; intro R; refine ⟨_, (by repeat constructor), ?_⟩;
             (first | (apply EvW.fieldAddr0; exact rfl; exact FldC.eq)))
        (apply Par.quiet _ [true, true, true, true, true, true, true, true]; exact rfl; decide +kernel; exact rfl; intro R; refine ⟨_, (by repeat constructor), ?_⟩;
             (first | (apply EvW.load; exact rfl; exact ScalC.eq; (focus ((repeat constructor); done)); exact rfl)))
        apply Par.quiet _ [true, true, true, true, true, true, true, true]
        · exact rfl
        · decide +kernel
        · exact rfl
        · intro R
          refine ⟨_, (by repeat constructor), ?_⟩
          (refine EvW.cast (hmd t.1) ?_; apply EvW.lookup; exact rfl; exact rfl; exact UndC.eq; exact UndC.eq; exact ZvC.eq; (focus ((repeat constructor); done)))
        exact Par.nil
      · repeat (first | exact AllN.nil | (apply AllN.cons; (intro c x; (repeat (first | exact IndA.nil | (apply IndA.skip; decide +kernel) | apply IndA.same))))) 
      · repeat (first | exact AllN.nil | (apply AllN.cons; (intro c x; (repeat (first | exact IndT.nil | (apply IndT.skip; decide +kernel) | apply IndT.same))))) 
      · exact fun _ => rfl
      intro c
      refine ⟨_, (by repeat constructor), ?_⟩
      apply WE.writ
      · (focus ((repeat (first | exact Writ.nil | apply Writ.some | apply Writ.none)); done))
      repeat first
        | (apply WL.q; exact rfl; exact rfl; exact rfl; (first | (apply EvW.assign; exact rfl) | (apply EvW.cmpT; exact rfl; exact rfl; exact rfl; omega) | (apply EvW.cmpF; exact rfl; exact rfl; exact rfl; omega)))
        | refine WC.seq ?_ | refine WC.region ?_ | refine WL.nil ?_ | refine WE.next ?_ | refine WC.block ?_ | refine WC.condT rfl ?_ | refine WC.condF rfl ?_
      repeat refine WC.seq ?_
      refine WC.keep (xs := [.blk rb #[.map (some o), vd, vh] 52, .imap o m, .own 34 2 (vd) (due).length ((due).flatMap telC), .own 34 2 (vh) (held).length ((held).flatMap telC), .own 34 2 (ov) (D.1).length ((D.1).flatMap telC), .own 34 2 (dv) (D.2.1).length ((D.2.1).flatMap telC), .own 34 2 (gv) (D.2.2).length ((D.2.2).flatMap telC), .blk tb #[i64 t.1, str t.2] 34]) (by repeat constructor) ?_
      refine WC.ofWA Try.mixed ?_
      refine WA.moveFirst 0 rfl rfl (by (first | decide +kernel | exact rfl)) (by (first | decide +kernel | exact rfl)) (by (first | decide +kernel | exact rfl)) (fun _ _ _ h => h) (by (first | decide +kernel | exact rfl)) ?_
      simp only [List.set_cons_zero, List.set_cons_succ]
      apply WA.par _ (fun c : Ch => [.blk rb #[.map (some o), vd, vh] 52, .imap o m, .own 34 2 (vd) (due).length ((due).flatMap telC), .own 34 2 (vh) (held).length ((held).flatMap telC), .own 34 2 (ov) (D.1).length ((D.1).flatMap telC), .blk (c 7).1 #[i64 t.1, str (spoilF t.2)] 34, .own 34 2 ((c 8).2) (D.1.length + 1) (D.1.flatMap telC ++ [i64 t.1, str (spoilF t.2)]), .own 34 2 (dv) (D.2.1).length ((D.2.1).flatMap telC), .own 34 2 (gv) (D.2.2).length ((D.2.2).flatMap telC), .blk tb #[i64 t.1, str t.2] 34]) [none, none, none, none, none, some 7, some 8, none, none, none] [none, none, none, none, some 8, some 8, none, none, none, none] [(7, fun x => .slice (some ⟨x.1, 0, none⟩) 1 1), (8, fun x => x.2)]
      · (focus ((repeat (first | exact Restr.nil | (apply Restr.keep; exact rfl; exact rfl) | (apply Restr.drop; exact rfl))); done))
      · intro c; exact (by repeat constructor)
      · exact rfl
      · (first | decide +kernel | exact rfl)
      · (first | decide +kernel | exact rfl)
      · intro c
        (apply Par.quiet _ [true, true, true, true, true, false, false, true, true, true]; exact rfl; (first | decide +kernel | exact rfl); exact rfl; intro R; refine ⟨_, (by repeat constructor), ?_⟩;
             (first | (apply EvW.move; exact rfl)))
        (apply Par.quiet _ [true, true, true, true, true, false, false, true, true, true]; exact rfl; (first | decide +kernel | exact rfl); exact rfl; intro R; refine ⟨_, (by repeat constructor), ?_⟩;
             (first | (apply EvW.fieldAddr0; exact rfl; exact FldC.eq)))
        (apply Par.quiet _ [true, true, true, true, true, false, false, true, true, true]; exact rfl; (first | decide +kernel | exact rfl); exact rfl; intro R; refine ⟨_, (by repeat constructor), ?_⟩;
             (first | (apply EvW.load; exact rfl; exact ScalC.eq; (focus ((repeat constructor); done)); exact rfl)))
        (apply Par.quiet _ [true, true, true, true, true, false, false, true, true, true]; exact rfl; (first | decide +kernel | exact rfl); exact rfl; intro R; refine ⟨_, (by repeat constructor), ?_⟩;
             (first | (apply EvW.fieldAddr0; exact rfl; exact FldC.eq)))
        (apply Par.quiet _ [true, true, true, true, true, false, false, true, true, true]; exact rfl; (first | decide +kernel | exact rfl); exact rfl; intro R; refine ⟨_, (by repeat constructor), ?_⟩;
             (first | (apply EvW.load; exact rfl; exact ScalC.eq; (focus ((repeat constructor); done)); exact rfl)))
        apply Par.quiet _ [true, true, true, true, true, false, false, true, true, true]
        · exact rfl
        · (first | decide +kernel | exact rfl)
        · exact rfl
        · intro R
          refine ⟨_, (by repeat constructor), ?_⟩
          apply EvW.callK ([])
          · exact rfl
          · exact fun w => Try.call26 _ w
          · (focus ((repeat constructor); done))
          · exact fun w1 S1 hS1 hs1 ho1 => rspoilt20_spec t.2 w1 S1 hS1 htl
          · exact fun _ _ h => h
        (apply Par.quiet _ [true, true, true, true, true, false, false, true, true, true]; exact rfl; (first | decide +kernel | exact rfl); exact rfl; intro R; refine ⟨_, (by repeat constructor), ?_⟩;
             (first | (apply EvW.build; exact PlC.eq; exact ZvC.eq; exact rfl; exact rfl; (focus ((repeat (first | exact Fills.nil | (apply Fills.cons; exact rfl; (first | assumption | exact rfl); exact rfl) | exact SetMany.nil | apply SetMany.cons | apply SetMany.succ)); done)))))
        (apply Par.new _ [false, false, false, false, false, false, false, false, false, false] [false, false, false, false, false, true, false, false, false, false] [true, true, true, true, true, false, false, true, true, true]; exact rfl; exact rfl; (first | decide +kernel | exact rfl); intro R; refine ⟨_, _, _, (by repeat constructor), (by repeat constructor), (fun x => (by repeat constructor)), ?_⟩; (apply NewW.buildSlice; exact UndC.eq; exact SzC.eq; exact ZvC.eq; exact rfl; exact rfl; exact rfl; (focus ((repeat (first | exact Flat.nil | (apply Flat.one; (first | exact rfl | assumption)) | (apply Flat.cons; exact rfl; exact rfl))); done)); exact rfl; exact rfl; exact fun _ => rfl))
        apply Par.new _ [false, false, false, false, true, true, false, false, false, false] [false, false, false, false, false, false, true, false, false, false] [true, true, true, true, false, false, false, true, true, true]
        · exact rfl
        · exact rfl
        · (first | decide +kernel | exact rfl)
        · intro R
          refine ⟨_, _, _, (by repeat constructor), (by repeat constructor), (fun x => (by repeat constructor)), ?_⟩
          (apply NewW.append; exact rfl; exact rfl; exact UndC.eq; exact SzC.eq; exact ByC.eq; exact ZvC.eq; exact rfl; (first | exact notInt_sl UndC.eq | exact notInt_st UndC.eq); exact rfl; (focus ((repeat constructor); done)))
          · exact adds_blk (by repeat constructor) rfl rfl
          · (omega)
          · exact fun _ _ h => TakeT.st (by (focus ((repeat (first | exact TakeT.tail | apply TakeT.cons | exact Take.head | apply Take.tail | apply TakeT.drop)); done))) h
        (apply Par.quiet _ [true, true, true, true, false, false, true, true, true, true]; exact rfl; (first | decide +kernel | exact rfl); exact rfl; intro R; refine ⟨_, (by repeat constructor), ?_⟩;
             (first | (apply EvW.assign; exact rfl)))
        exact Par.nil
      · repeat (first | exact AllN.nil | (apply AllN.cons; (intro c x; (repeat (first | exact IndA.nil | (apply IndA.skip; (first | decide +kernel | exact rfl)) | apply IndA.same))))) 
      · repeat (first | exact AllN.nil | (apply AllN.cons; (intro c x; (repeat (first | exact IndT.nil | (apply IndT.skip; (first | decide +kernel | exact rfl)) | apply IndT.same))))) 
      · exact fun _ => rfl
      intro c
      refine ⟨_, (by repeat constructor), ?_⟩
      apply WE.writ
      · (focus ((repeat (first | exact Writ.nil | apply Writ.some | apply Writ.none)); done))
      generalize (c 7).1 = b7
      generalize (c 8).2 = x2
      have hfs : D.1.flatMap telC ++ [i64 t.1, str (spoilF t.2)] = (D.1 ++ [(t.1, spoilF t.2)]).flatMap telC := (flat_snoc D.1 (t.1, spoilF t.2)).symm
      rw [hfs, ← len_snoc D.1 (t.1, spoilF t.2)]
      repeat first
        | (apply WL.q; exact rfl; exact rfl; exact rfl; (first | (apply EvW.move; exact rfl) | (apply EvW.arN; exact rfl; exact rfl; exact rfl; refine i64_in ?_ ?_ <;> omega)))
        | refine WC.region ?_ | refine WL.nil ?_ | refine WE.next ?_ | refine WE.out ?_
      exact WE.again (s := (i, ov, dv, gv)) ((i + 1, x2, dv, gv)) (by simp only []; omega) (by (focus ((repeat (first | exact trivial | (refine ⟨rfl, ?_⟩))); done))) (fun _ h => (by (try simp only []); rw [hnx]; exact h.keep (by repeat constructor))) (by (try simp only []); omega)
    by_cases h5 : md t.1 = 5
    · have hnx : dPass md due held (l.take (i + 1)) K = (D.1, D.2.1, D.2.2 ++ [t]) := by rw [hstep]; unfold dStep; rw [if_neg h0, if_neg h2, if_neg h3, if_neg h4, if_pos h5]
      repeat refine WC.seq ?_
      refine WC.keep (xs := [.blk rb #[.map (some o), vd, vh] 52, .imap o m, .own 34 2 (vd) (due).length ((due).flatMap telC), .own 34 2 (vh) (held).length ((held).flatMap telC), .own 34 2 (ov) (D.1).length ((D.1).flatMap telC), .own 34 2 (dv) (D.2.1).length ((D.2.1).flatMap telC), .own 34 2 (gv) (D.2.2).length ((D.2.2).flatMap telC), .blk tb #[i64 t.1, str t.2] 34]) (by repeat constructor) ?_
      apply WC.par _ (fun c : Ch => [.blk rb #[.map (some o), vd, vh] 52, .imap o m, .own 34 2 (vd) (due).length ((due).flatMap telC), .own 34 2 (vh) (held).length ((held).flatMap telC), .own 34 2 (ov) (D.1).length ((D.1).flatMap telC), .own 34 2 (dv) (D.2.1).length ((D.2.1).flatMap telC), .own 34 2 (gv) (D.2.2).length ((D.2.2).flatMap telC), .blk tb #[i64 t.1, str t.2] 34]) [none, none, none, none, none, none, none, none] [none, none, none, none, none, none, none, none] [] Try.mixed
      · (focus ((repeat (first | exact Restr.nil | (apply Restr.keep; exact rfl; exact rfl) | (apply Restr.drop; exact rfl))); done))
      · intro c; exact (by repeat constructor)
      · exact rfl
      · decide +kernel
      · decide +kernel
      · intro c
        (apply Par.quiet _ [true, true, true, true, true, true, true, true]; exact rfl; decide +kernel; exact rfl; intro R; refine ⟨_, (by repeat constructor), ?_⟩;
             (first | (apply EvW.move; exact rfl)))
        (apply Par.quiet _ [true, true, true, true, true, true, true, true]; exact rfl; decide +kernel; exact rfl; intro R; refine ⟨_, (by repeat constructor), ?_⟩;
             (first | (apply EvW.nilPtr; exact rfl)))
        (apply Par.quiet _ [true, true, true, true, true, true, true, true]; exact rfl; decide +kernel; exact rfl; intro R; refine ⟨_, (by repeat constructor), ?_⟩;
             (first | (apply EvW.fieldAddr0; exact rfl; exact FldC.eq)))
        (apply Par.quiet _ [true, true, true, true, true, true, true, true]; exact rfl; decide +kernel; exact rfl; intro R; refine ⟨_, (by repeat constructor), ?_⟩;
             (first | (apply EvW.load; exact rfl; exact ScalC.eq; (focus ((repeat constructor); done)); exact rfl)))
        (apply Par.quiet _ [true, true, true, true, true, true, true, true]; exact rfl; decide +kernel; exact rfl; intro R; refine ⟨_, (by repeat constructor), ?_⟩;
             (first | (apply EvW.fieldAddr0; exact rfl; exact FldC.eq)))
        (apply Par.quiet _ [true, true, true, true, true, true, true, true]; exact rfl; decide +kernel; exact rfl; intro R; refine ⟨_, (by repeat constructor), ?_⟩;
             (first | (apply EvW.load; exact rfl; exact ScalC.eq; (focus ((repeat constructor); done)); exact rfl)))
        apply Par.quiet _ [true, true, true, true, true, true, true, true]
        · exact rfl
        · decide +kernel
        · exact rfl
        · intro R
          refine ⟨_, (by repeat constructor), ?_⟩
          (refine EvW.cast (hmd t.1) ?_; apply EvW.lookup; exact rfl; exact rfl; exact UndC.eq; exact UndC.eq; exact ZvC.eq; (focus ((repeat constructor); done)))
        exact Par.nil
      · repeat (first | exact AllN.nil | (apply AllN.cons; (intro c x; (repeat (first | exact IndA.nil | (apply IndA.skip; decide +kernel) | apply IndA.same))))) 
      · repeat (first | exact AllN.nil | (apply AllN.cons; (intro c x; (repeat (first | exact IndT.nil | (apply IndT.skip; decide +kernel) | apply IndT.same))))) 
      · exact fun _ => rfl
      intro c
      refine ⟨_, (by repeat constructor), ?_⟩
      apply WE.writ
      · (focus ((repeat (first | exact Writ.nil | apply Writ.some | apply Writ.none)); done))
      repeat first
        | (apply WL.q; exact rfl; exact rfl; exact rfl; (first | (apply EvW.move; exact rfl) | (apply EvW.assign; exact rfl) | (apply EvW.cmpT; exact rfl; exact rfl; exact rfl; omega) | (apply EvW.cmpF; exact rfl; exact rfl; exact rfl; omega) | (apply EvW.loadAgg; exact rfl; exact AggC.eq; exact SzC.eq; (focus ((repeat constructor); done)); (focus ((repeat (first | exact SubL.nil | apply SubL.cons | apply SubL.succ)); done)))))
        | refine WC.seq ?_ | refine WC.region ?_ | refine WL.nil ?_ | refine WE.next ?_ | refine WC.block ?_ | refine WC.condT rfl ?_ | refine WC.condF rfl ?_
      try refine WL.wanted rfl rfl rfl ?_
      (apply WL.buildSlice; exact rfl; exact UndC.eq; exact SzC.eq; exact ZvC.eq; exact rfl; exact rfl; exact rfl; ((focus ((repeat (first | exact Flat.nil | (apply Flat.one; (first | exact rfl | assumption)) | (apply Flat.cons; exact rfl; exact rfl))); done))); exact rfl; exact rfl; intro k0)
      skip
      try refine WL.wanted rfl rfl rfl ?_
      (apply WL.append; exact rfl; exact rfl; exact rfl; exact UndC.eq; exact SzC.eq; exact ByC.eq; exact ZvC.eq; exact rfl; (first | exact notInt_sl UndC.eq | exact notInt_st UndC.eq); exact rfl; (focus ((repeat constructor); done)))
      · exact adds_blk .head rfl rfl
      · (omega)
      intro x2
      refine WL.ownEq (cs' := (D.2.2 ++ [t]).flatMap telC) (len' := (D.2.2 ++ [t]).length) .head (by rw [len_snoc]) (by rw [flat_snoc]; rfl) ?_
      (first | refine WL.slOwn (v := x2) (by repeat constructor) ?_ | refine WC.slOwn (v := x2) (by repeat constructor) ?_)
      intro hc_x2 ho_x2
      repeat first
        | (apply WL.q; exact rfl; exact rfl; exact rfl; (first | (apply EvW.move; exact rfl) | (apply EvW.assign; exact rfl) | (apply EvW.arN; exact rfl; exact rfl; exact rfl; refine i64_in ?_ ?_ <;> omega)))
        | refine WC.region ?_ | refine WL.nil ?_ | refine WE.next ?_ | refine WE.out ?_
      exact WE.again (s := (i, ov, dv, gv)) ((i + 1, ov, dv, x2)) (by simp only []; omega) (by (focus ((repeat (first | exact trivial | (refine ⟨rfl, ?_⟩))); done))) (fun _ h => (by (try simp only []); rw [hnx]; exact h.keep (by repeat constructor))) (by (try simp only []); omega)
    have hnx : dPass md due held (l.take (i + 1)) K = D := by rw [hstep]; unfold dStep; rw [if_neg h0, if_neg h2, if_neg h3, if_neg h4, if_neg h5]
    repeat refine WC.seq ?_
    refine WC.keep (xs := [.blk rb #[.map (some o), vd, vh] 52, .imap o m, .own 34 2 (vd) (due).length ((due).flatMap telC), .own 34 2 (vh) (held).length ((held).flatMap telC), .own 34 2 (ov) (D.1).length ((D.1).flatMap telC), .own 34 2 (dv) (D.2.1).length ((D.2.1).flatMap telC), .own 34 2 (gv) (D.2.2).length ((D.2.2).flatMap telC), .blk tb #[i64 t.1, str t.2] 34]) (by repeat constructor) ?_
    apply WC.par _ (fun c : Ch => [.blk rb #[.map (some o), vd, vh] 52, .imap o m, .own 34 2 (vd) (due).length ((due).flatMap telC), .own 34 2 (vh) (held).length ((held).flatMap telC), .own 34 2 (ov) (D.1).length ((D.1).flatMap telC), .own 34 2 (dv) (D.2.1).length ((D.2.1).flatMap telC), .own 34 2 (gv) (D.2.2).length ((D.2.2).flatMap telC), .blk tb #[i64 t.1, str t.2] 34]) [none, none, none, none, none, none, none, none] [none, none, none, none, none, none, none, none] [] Try.mixed
    · (focus ((repeat (first | exact Restr.nil | (apply Restr.keep; exact rfl; exact rfl) | (apply Restr.drop; exact rfl))); done))
    · intro c; exact (by repeat constructor)
    · exact rfl
    · decide +kernel
    · decide +kernel
    · intro c
      (apply Par.quiet _ [true, true, true, true, true, true, true, true]; exact rfl; decide +kernel; exact rfl; intro R; refine ⟨_, (by repeat constructor), ?_⟩;
           (first | (apply EvW.move; exact rfl)))
      (apply Par.quiet _ [true, true, true, true, true, true, true, true]; exact rfl; decide +kernel; exact rfl; intro R; refine ⟨_, (by repeat constructor), ?_⟩;
           (first | (apply EvW.nilPtr; exact rfl)))
      (apply Par.quiet _ [true, true, true, true, true, true, true, true]; exact rfl; decide +kernel; exact rfl; intro R; refine ⟨_, (by repeat constructor), ?_⟩;
           (first | (apply EvW.fieldAddr0; exact rfl; exact FldC.eq)))
      (apply Par.quiet _ [true, true, true, true, true, true, true, true]; exact rfl; decide +kernel; exact rfl; intro R; refine ⟨_, (by repeat constructor), ?_⟩;
           (first | (apply EvW.load; exact rfl; exact ScalC.eq; (focus ((repeat constructor); done)); exact rfl)))
      (apply Par.quiet _ [true, true, true, true, true, true, true, true]; exact rfl; decide +kernel; exact rfl; intro R; refine ⟨_, (by repeat constructor), ?_⟩;
           (first | (apply EvW.fieldAddr0; exact rfl; exact FldC.eq)))
      (apply Par.quiet _ [true, true, true, true, true, true, true, true]; exact rfl; decide +kernel; exact rfl; intro R; refine ⟨_, (by repeat constructor), ?_⟩;
           (first | (apply EvW.load; exact rfl; exact ScalC.eq; (focus ((repeat constructor); done)); exact rfl)))
      apply Par.quiet _ [true, true, true, true, true, true, true, true]
      · exact rfl
      · decide +kernel
      · exact rfl
      · intro R
        refine ⟨_, (by repeat constructor), ?_⟩
        (refine EvW.cast (hmd t.1) ?_; apply EvW.lookup; exact rfl; exact rfl; exact UndC.eq; exact UndC.eq; exact ZvC.eq; (focus ((repeat constructor); done)))
      exact Par.nil
    · repeat (first | exact AllN.nil | (apply AllN.cons; (intro c x; (repeat (first | exact IndA.nil | (apply IndA.skip; decide +kernel) | apply IndA.same))))) 
    · repeat (first | exact AllN.nil | (apply AllN.cons; (intro c x; (repeat (first | exact IndT.nil | (apply IndT.skip; decide +kernel) | apply IndT.same))))) 
    · exact fun _ => rfl
    intro c
    refine ⟨_, (by repeat constructor), ?_⟩
    apply WE.writ
    · (focus ((repeat (first | exact Writ.nil | apply Writ.some | apply Writ.none)); done))
    repeat first
      | (apply WL.q; exact rfl; exact rfl; exact rfl; (first | (apply EvW.move; exact rfl) | (apply EvW.assign; exact rfl) | (apply EvW.cmpF; exact rfl; exact rfl; exact rfl; omega) | (apply EvW.arN; exact rfl; exact rfl; exact rfl; refine i64_in ?_ ?_ <;> omega)))
      | refine WC.seq ?_ | refine WC.region ?_ | refine WL.nil ?_ | refine WE.next ?_ | refine WC.block ?_ | refine WC.skip ?_ | refine WE.out ?_ | refine WC.condF rfl ?_
    exact WE.again (s := (i, ov, dv, gv)) ((i + 1, ov, dv, gv)) (by simp only []; omega) (by (focus ((repeat (first | exact trivial | (refine ⟨rfl, ?_⟩))); done))) (fun _ h => (by (try simp only []); rw [hnx]; exact h.keep (by repeat constructor))) (by (try simp only []); omega)
  obtain rfl : i = l.length := by omega
  rw [List.take_length]
  (first | refine WL.slOwn (v := dv) (by repeat constructor) ?_ | refine WC.slOwn (v := dv) (by repeat constructor) ?_)
  intro hc_dv ho_dv
  (first | refine WL.slOwn (v := gv) (by repeat constructor) ?_ | refine WC.slOwn (v := gv) (by repeat constructor) ?_)
  intro hc_gv ho_gv
  repeat first
    | (apply WL.q; exact rfl; exact rfl; exact rfl; (first | (apply EvW.move; exact rfl) | (apply EvW.assign; exact rfl) | (apply EvW.nilPtr; exact rfl) | (apply EvW.fieldAddr0; exact rfl; exact FldC.eq) | (apply EvW.cmpF; exact rfl; exact rfl; exact rfl; omega)))
    | refine WC.seq ?_ | refine WC.region ?_ | refine WL.nil ?_ | refine WE.next ?_ | refine WC.exit ?_ | refine WE.pass ?_ | refine WE.hit ?_ | refine WC.condF rfl ?_ | refine WC.ret ?_ | (apply WL.store; exact rfl; exact rfl; (first | assumption | exact rfl); exact SzC.eq; (first | assumption | exact rfl); (focus ((repeat constructor); done)))
  refine WE.shutD (o := o) (m := m) (vd := dv) (vh := gv) hmd (by repeat constructor) ?_
  refine WE.keep (xs := [.own 34 2 (ov) ((dPass md due held l K).1).length (((dPass md due held l K).1).flatMap telC), docH rb md (dPass md due held l K).2.1 (dPass md due held l K).2.2]) (by repeat constructor) ?_
  refine WE.ret1 rfl rfl ?_
  rfl
end Go.Proofs.Ytoaajdmacngnjaa
namespace Go.Proofs.Ytoaajdmacngnjaa
open Go.RowKit Go.BK
def wOf (xs : List Wr) (p : Int) : Wr := (ofF xs p).getD (ixW xs p) default
def upW (xs : List Wr) (p : Int) (q : Wr) : List Wr := (ofF xs p).set (ixW xs p) q
theorem ofF_yes {q : Wr} {r : List Wr} {p : Int} (e : p = q.p) : ixW (q :: r) p = 0 ∧ ofF (q :: r) p = q :: r := by
  have h : ixW (q :: r) p = 0 := by unfold ixW; rw [if_pos e]
  refine ⟨h, ?_⟩
  unfold ofF
  rw [h, if_pos (by simp)]
theorem ofF_no {q : Wr} {r : List Wr} {p : Int} (e : ¬ p = q.p) : ixW (q :: r) p = ixW r p + 1 ∧ ofF (q :: r) p = q :: ofF r p := by
  have h : ixW (q :: r) p = ixW r p + 1 := by
    show (if p = q.p then 0 else ixW r p + 1) = _
    rw [if_neg e]
  refine ⟨h, ?_⟩
  unfold ofF
  rw [h]
  by_cases h2 : ixW r p < r.length
  · rw [if_pos (by simp only [List.length_cons]; omega), if_pos h2]
  · rw [if_neg (by simp only [List.length_cons]; omega), if_neg h2]; rfl
theorem wOf_cons (q : Wr) (r : List Wr) (p : Int) : wOf (q :: r) p = if p = q.p then q else wOf r p := by
  unfold wOf
  by_cases e : p = q.p
  · rw [(ofF_yes e).1, (ofF_yes e).2, if_pos e]; rfl
  · rw [(ofF_no e).1, (ofF_no e).2, if_neg e, List.getD_cons_succ]
theorem upW_cons (q : Wr) (r : List Wr) (p : Int) (q' : Wr) : upW (q :: r) p q' = if p = q.p then q' :: r else q :: upW r p q' := by
  unfold upW
  by_cases e : p = q.p
  · rw [(ofF_yes e).1, (ofF_yes e).2, if_pos e]; rfl
  · rw [(ofF_no e).1, (ofF_no e).2, if_neg e, List.set_cons_succ]
theorem wOf_up (xs : List Wr) (p : Int) (q' : Wr) (h : q'.p = p) (p' : Int) : wOf (upW xs p q') p' = if p' = p then q' else wOf xs p' := by
  induction xs with
  | nil =>
    show wOf [q'] p' = _
    rw [wOf_cons, h]
  | cons q r ih =>
    rw [upW_cons]
    by_cases e : p = q.p
    · rw [if_pos e, wOf_cons, wOf_cons, h]
      by_cases e2 : p' = p
      · rw [if_pos e2, if_pos e2]
      · rw [if_neg e2, if_neg e2, if_neg (by rw [← e]; exact e2)]
    · rw [if_neg e, wOf_cons, wOf_cons, ih]
      by_cases e2 : p' = q.p
      · rw [if_pos e2, if_neg (by rw [e2]; exact fun h => e h.symm), if_pos e2]
      · rw [if_neg e2, if_neg e2]
theorem wOf_ready (xs : List Wr) (p : Int) : wOf (xs.map readyW) p = readyW (wOf xs p) := by
  induction xs with
  | nil => rfl
  | cons q r ih =>
    rw [List.map_cons, wOf_cons, wOf_cons, ih]
    show (if p = q.p then _ else _) = _
    split <;> rfl
theorem wOf_not (xs : List Wr) (p : Int) (h : p ∉ xs.map (·.p)) : wOf xs p = newW p := by
  induction xs with
  | nil => rfl
  | cons q r ih =>
    rw [List.map_cons, List.mem_cons, not_or] at h
    rw [wOf_cons, if_neg h.1, ih h.2]
theorem wOf_get (xs : List Wr) (p : Int) (h : p ∈ xs.map (·.p)) : getW xs p = wOf xs p := by
  obtain ⟨h1, _⟩ := ixW_mem xs p h
  unfold getW wOf ofF
  rw [if_pos h1]
theorem telsOf_two (p : Int) (a b : List Txt) : telsOf p (a ++ b) = telsOf p a ++ telsOf p b := List.map_append ..
/-- A peer's wire, and what the document has of it. -/
def RelW (q : Wr) (m p : Int) (due held : List Tel) : Prop := q.mode = m ∧ telsOf p q.due = due.filter (isP p) ∧ telsOf p q.held = held.filter (isP p)
def Rel (xs : List Wr) (md : Int → Int) (due held : List Tel) : Prop := ∀ p, RelW (wOf xs p) (md p) p due held
theorem rel_nil : Rel [] (fun _ => 0) [] [] := fun _ => ⟨rfl, rfl, rfl⟩
theorem rel_set {xs : List Wr} {md : Int → Int} {due held : List Tel} (h : Rel xs md due held) (p m : Int) : Rel (setF xs p m) (setD md p m) due held := by
  unfold setF setD
  by_cases hb : m < 0 ∨ 5 < m
  · rw [if_pos hb, if_pos hb]; exact h
  · rw [if_neg hb, if_neg hb]
    intro p'
    show RelW (wOf (upW xs p ⟨(wOf xs p).p, m, (wOf xs p).due, (wOf xs p).held⟩) p') (if p' = p then m else md p') p' due held
    rw [wOf_up xs p ⟨(wOf xs p).p, m, (wOf xs p).due, (wOf xs p).held⟩ (ofF_p xs p) p']
    by_cases e : p' = p
    · rw [if_pos e, if_pos e, e]
      exact ⟨rfl, (h p).2.1, (h p).2.2⟩
    · rw [if_neg e, if_neg e]; exact h p'
theorem filter_held (md : Int → Int) (held : List Tel) (p : Int) : (held.filter (isHeld md)).filter (isP p) = if md p = 5 then held.filter (isP p) else [] := by
  induction held with
  | nil => simp
  | cons t l ih =>
    by_cases h1 : isHeld md t = true
    · rw [List.filter_cons_of_pos h1]
      by_cases h2 : isP p t = true
      · rw [List.filter_cons_of_pos h2, List.filter_cons_of_pos h2, ih]
        have e1 : md t.1 = 5 := of_decide_eq_true h1
        have e2 : t.1 = p := of_decide_eq_true h2
        rw [e2] at e1
        rw [if_pos e1, if_pos e1]
      · rw [List.filter_cons_of_neg h2, List.filter_cons_of_neg h2, ih]
    · rw [List.filter_cons_of_neg h1, ih]
      by_cases h2 : isP p t = true
      · have e1 : ¬ md t.1 = 5 := fun h => h1 (decide_eq_true h)
        have e2 : t.1 = p := of_decide_eq_true h2
        rw [e2] at e1
        rw [if_neg e1, if_neg e1]
      · rw [List.filter_cons_of_neg h2]
theorem rel_ready {xs : List Wr} {md : Int → Int} {due held : List Tel} (h : Rel xs md due held) : Rel (xs.map readyW) md [] (held.filter (isHeld md)) := by
  intro p
  rw [wOf_ready]
  obtain ⟨h1, h2, h3⟩ := h p
  refine ⟨h1, rfl, ?_⟩
  rw [filter_held]
  show telsOf p (if (wOf xs p).mode = 5 then (wOf xs p).held else []) = _
  rw [h1]
  split
  · exact h3
  · rfl
theorem out_ready {xs : List Wr} {md : Int → Int} {due held : List Tel} (h : Rel xs md due held) (p : Int) : telsOf p (readyO (wOf xs p)) = peerO md due held p := by
  obtain ⟨h1, h2, h3⟩ := h p
  unfold readyO peerO
  rw [h1, ← h2, ← h3]
  split
  · rw [List.append_nil]
  · rw [telsOf_two]
    congr 1
    exact List.map_reverse ..
theorem filter_mem {l : List Tel} {t : Tel} (h : t ∈ l) : l.filter (isP t.1) ≠ [] := fun e => by
  have : t ∈ l.filter (isP t.1) := List.mem_filter.2 ⟨h, decide_eq_true rfl⟩
  rw [e] at this; cases this
theorem rel_mem {xs : List Wr} {md : Int → Int} {due held : List Tel} (h : Rel xs md due held) {t : Tel} (ht : t ∈ due ++ held) : t.1 ∈ xs.map (·.p) := by
  by_cases hm : t.1 ∈ xs.map (·.p)
  · exact hm
  · exfalso
    obtain ⟨_, h2, h3⟩ := h t.1
    rw [wOf_not xs _ hm] at h2 h3
    rcases List.mem_append.1 ht with h4 | h4
    · exact filter_mem h4 h2.symm
    · exact filter_mem h4 h3.symm
/-- The peers of which something is under way, from the least. -/
def keysD (xs : List Wr) (due held : List Tel) : List Int := (sortI (xs.map (·.p))).filter fun p => decide (p ∈ (due ++ held).map (·.1))
theorem sort_lt {l : List Int} (h : l.Nodup) : (sortI l).Pairwise (· < ·) := by
  have h1 := sortI_le l
  have h2 : (sortI l).Nodup := (sortI_perm l).nodup_iff.2 h
  exact (h1.and h2).imp fun ⟨a, b⟩ => by omega
theorem keysD_of {xs : List Wr} {md : Int → Int} {due held : List Tel} (h : Rel xs md due held) (hd : (xs.map (·.p)).Nodup) : KeysOf (keysD xs due held) (due ++ held) := by
  refine ⟨(sort_lt hd).filter _, fun p => ?_⟩
  unfold keysD
  rw [List.mem_filter, (sortI_perm _).mem_iff]
  refine ⟨fun h1 => of_decide_eq_true h1.2, fun h1 => ⟨?_, decide_eq_true h1⟩⟩
  obtain ⟨t, ht, rfl⟩ := List.mem_map.1 h1
  exact rel_mem h ht
theorem flat_filter {α β : Type} (l : List α) (q : α → Bool) (f : α → List β) (h : ∀ x ∈ l, q x = false → f x = []) : (l.filter q).flatMap f = l.flatMap f := by
  induction l with
  | nil => rfl
  | cons x l ih =>
    have ih := ih fun y hy => h y (by simp [hy])
    cases e : q x with
    | true => rw [List.filter_cons_of_pos e, List.flatMap_cons, List.flatMap_cons, ih]
    | false => rw [List.filter_cons_of_neg (by rw [e]; decide), List.flatMap_cons, ih, h x (by simp) e]; rfl
theorem peer_nil (md : Int → Int) (due held : List Tel) (p : Int) (h : p ∉ (due ++ held).map (·.1)) : peerO md due held p = [] := by
  have h1 : ∀ l : List Tel, (∀ t ∈ l, t ∈ due ++ held) → l.filter (isP p) = [] := fun l hl => by
    rw [List.filter_eq_nil_iff]
    intro t ht he
    exact h (List.mem_map.2 ⟨t, hl t ht, of_decide_eq_true he⟩)
  unfold peerO
  rw [h1 due (fun t ht => List.mem_append_left _ ht), h1 held (fun t ht => List.mem_append_right _ ht)]
  split <;> rfl
theorem outR_rel {xs : List Wr} {md : Int → Int} {due held : List Tel} (h : Rel xs md due held) : outR xs (sortI (xs.map (·.p))) = (keysD xs due held).flatMap (peerO md due held) := by
  unfold keysD
  rw [flat_filter _ _ _ (fun p _ hq => peer_nil md due held p (of_decide_eq_false hq))]
  have hK : ∀ p ∈ sortI (xs.map (·.p)), p ∈ xs.map (·.p) := fun p hp => (sortI_perm _).mem_iff.1 hp
  generalize sortI (xs.map (·.p)) = K at hK
  unfold outR
  induction K with
  | nil => rfl
  | cons p r ih =>
    rw [List.flatMap_cons, List.flatMap_cons, ih fun p' hp' => hK p' (by simp [hp']), wOf_get xs p (hK p (by simp)), out_ready h p]
theorem filter_snoc (l : List Tel) (t : Tel) (p : Int) : (l ++ [t]).filter (isP p) = if p = t.1 then l.filter (isP p) ++ [t] else l.filter (isP p) := by
  rw [List.filter_append]
  by_cases e : p = t.1
  · rw [if_pos e, List.filter_cons_of_pos (show isP p t = true from decide_eq_true e.symm)]; rfl
  · rw [if_neg e, List.filter_cons_of_neg (show ¬ isP p t = true from fun h => e (of_decide_eq_true h).symm), List.filter_nil, List.append_nil]
theorem telsOf_snoc (t : Tel) (d : List Txt) : telsOf t.1 (d ++ [t.2]) = telsOf t.1 d ++ [t] := telsOf_two ..
theorem rel_step {xs : List Wr} {md : Int → Int} {out due held : List Tel} (h : Rel xs md due held) (t : Tel) : Rel (stepF (xs, out) t).1 md (dStep md (out, due, held) t).2.1 (dStep md (out, due, held) t).2.2 ∧ (stepF (xs, out) t).2 = (dStep md (out, due, held) t).1 := by
  obtain ⟨h1, h2, h3⟩ := h t.1
  have e1 : (stepF (xs, out) t).1 = upW xs t.1 (inW (wOf xs t.1) t.2) := rfl
  have e2 : (stepF (xs, out) t).2 = out ++ telsOf t.1 (inO (wOf xs t.1) t.2) := rfl
  have hp : (inW (wOf xs t.1) t.2).p = t.1 := by rw [inW_p]; exact ofF_p xs t.1
  rw [e1, e2]
  have key : ∀ (due' held' : List Tel), RelW (inW (wOf xs t.1) t.2) (md t.1) t.1 due' held' → (∀ p, p ≠ t.1 → due'.filter (isP p) = due.filter (isP p) ∧ held'.filter (isP p) = held.filter (isP p)) → Rel (upW xs t.1 (inW (wOf xs t.1) t.2)) md due' held' := by
    intro due' held' hA hB p
    rw [wOf_up xs t.1 _ hp p]
    by_cases e : p = t.1
    · rw [if_pos e, e]; exact hA
    · rw [if_neg e]
      obtain ⟨h4, h5, h6⟩ := h p
      obtain ⟨h7, h8⟩ := hB p e
      exact ⟨h4, by rw [h7]; exact h5, by rw [h8]; exact h6⟩
  unfold dStep
  by_cases c0 : md t.1 = 0
  · rw [if_pos c0]
    refine ⟨key _ _ ?_ fun p _ => ⟨rfl, rfl⟩, ?_⟩
    · unfold inW
      rw [h1, c0, if_neg (by decide), if_neg (by decide)]
      exact ⟨by rw [h1]; exact c0, h2, h3⟩
    · unfold inO
      rw [h1, c0, if_pos (by decide)]; rfl
  rw [if_neg c0]
  by_cases c2 : md t.1 = 2
  · rw [if_pos c2]
    refine ⟨key _ _ ?_ fun p hp => ⟨(by rw [filter_snoc, if_neg hp]), rfl⟩, ?_⟩
    · unfold inW
      rw [h1, c2, if_pos (by decide)]
      refine ⟨rfl, ?_, h3⟩
      rw [filter_snoc, if_pos rfl, ← h2]; exact telsOf_snoc t _
    · unfold inO
      rw [h1, c2, if_neg (by decide), if_neg (by decide)]; exact List.append_nil _
  rw [if_neg c2]
  by_cases c3 : md t.1 = 3
  · rw [if_pos c3]
    refine ⟨key _ _ ?_ fun p hp => ⟨(by rw [filter_snoc, if_neg hp]), rfl⟩, ?_⟩
    · unfold inW
      rw [h1, c3, if_pos (by decide)]
      refine ⟨rfl, ?_, h3⟩
      rw [filter_snoc, if_pos rfl, ← h2]; exact telsOf_snoc t _
    · unfold inO
      rw [h1, c3, if_pos (by decide)]; rfl
  rw [if_neg c3]
  by_cases c4 : md t.1 = 4
  · rw [if_pos c4]
    refine ⟨key _ _ ?_ fun p _ => ⟨rfl, rfl⟩, ?_⟩
    · unfold inW
      rw [h1, c4, if_neg (by decide), if_neg (by decide)]
      exact ⟨by rw [h1]; exact c4, h2, h3⟩
    · unfold inO
      rw [h1, c4, if_neg (by decide), if_pos (by decide)]; rfl
  rw [if_neg c4]
  by_cases c5 : md t.1 = 5
  · rw [if_pos c5]
    refine ⟨key _ _ ?_ fun p hp => ⟨rfl, (by rw [filter_snoc, if_neg hp])⟩, ?_⟩
    · unfold inW
      rw [h1, c5, if_neg (by decide), if_pos (by decide)]
      refine ⟨rfl, h2, ?_⟩
      rw [filter_snoc, if_pos rfl, ← h3]; exact telsOf_snoc t _
    · unfold inO
      rw [h1, c5, if_neg (by decide), if_neg (by decide)]; exact List.append_nil _
  rw [if_neg c5]
  refine ⟨key _ _ ?_ fun p _ => ⟨rfl, rfl⟩, ?_⟩
  · unfold inW
    rw [h1, if_neg (by omega), if_neg (by omega)]
    exact ⟨h1, h2, h3⟩
  · unfold inO
    rw [h1, if_neg (by omega), if_neg (by omega)]; exact List.append_nil _
theorem rel_pass {xs : List Wr} {md : Int → Int} {due held : List Tel} (h : Rel xs md due held) (l : List Tel) : Rel (passF xs l).1 md (dPass md due held l (keysD xs due held)).2.1 (dPass md due held l (keysD xs due held)).2.2 ∧ (passF xs l).2 = (dPass md due held l (keysD xs due held)).1 := by
  unfold passF dPass
  rw [outR_rel h]
  have key : ∀ (l : List Tel) (xs : List Wr) (out due held : List Tel), Rel xs md due held → Rel (l.foldl stepF (xs, out)).1 md (l.foldl (dStep md) (out, due, held)).2.1 (l.foldl (dStep md) (out, due, held)).2.2 ∧ (l.foldl stepF (xs, out)).2 = (l.foldl (dStep md) (out, due, held)).1 := by
    intro l
    induction l with
    | nil => intro xs out due held h; exact ⟨h, rfl⟩
    | cons t l ih =>
      intro xs out due held h
      obtain ⟨h1, h2⟩ := rel_step (out := out) h t
      rw [List.foldl_cons, List.foldl_cons]
      have e1 : stepF (xs, out) t = ((stepF (xs, out) t).1, (dStep md (out, due, held) t).1) := Prod.ext rfl h2
      rw [e1]
      exact ih _ _ _ _ h1
  exact key l _ _ _ _ (rel_ready h)
theorem sum_one (K : List Int) (a : Int) (hd : K.Nodup) : (K.map fun p => if a = p then 1 else 0).sum = if a ∈ K then 1 else 0 := by
  induction K with
  | nil => rfl
  | cons p r ih =>
    rw [List.map_cons, List.sum_cons, ih (List.nodup_cons.1 hd).2]
    by_cases e : a = p
    · rw [if_pos e, if_neg (by rw [e]; exact (List.nodup_cons.1 hd).1), if_pos (by rw [e]; simp)]
    · rw [if_neg e, Nat.zero_add]
      by_cases h : a ∈ r
      · rw [if_pos h, if_pos (by simp [h])]
      · rw [if_neg h, if_neg (by simp [e, h])]
theorem sum_add (K : List Int) (f g : Int → Nat) : (K.map fun p => f p + g p).sum = (K.map f).sum + (K.map g).sum := by
  induction K with
  | nil => rfl
  | cons p r ih => simp only [List.map_cons, List.sum_cons, ih]; omega
theorem sum_filter (K : List Int) (hd : K.Nodup) (l : List Tel) (h : ∀ t ∈ l, t.1 ∈ K) : (K.map fun p => (l.filter (isP p)).length).sum = l.length := by
  induction l with
  | nil =>
    clear h hd
    induction K with
    | nil => rfl
    | cons p r ih => rw [List.map_cons, List.sum_cons, ih]; rfl
  | cons t l ih =>
    have e : (fun p => ((t :: l).filter (isP p)).length) = fun p => (if t.1 = p then 1 else 0) + (l.filter (isP p)).length := by
      funext p
      by_cases h1 : t.1 = p
      · rw [List.filter_cons_of_pos (show isP p t = true from decide_eq_true h1), if_pos h1, List.length_cons, Nat.add_comm]
      · rw [List.filter_cons_of_neg (show ¬ isP p t = true from fun h => h1 (of_decide_eq_true h)), if_neg h1, Nat.zero_add]
    rw [e, sum_add, ih fun t' ht' => h t' (by simp [ht']), sum_one K t.1 hd, if_pos (h t (by simp)), List.length_cons, Nat.add_comm]
theorem rel_under {xs : List Wr} {md : Int → Int} {due held : List Tel} (h : Rel xs md due held) (hd : (xs.map (·.p)).Nodup) : underF xs = due.length + held.length := by
  rw [← keys_sum xs hd (List.Perm.refl _), ← sum_filter _ hd due (fun t ht => rel_mem h (List.mem_append_left _ ht)), ← sum_filter _ hd held (fun t ht => rel_mem h (List.mem_append_right _ ht)), ← sum_add]
  congr 1
  refine List.map_congr_left fun p hp => ?_
  obtain ⟨_, h2, h3⟩ := h p
  rw [wOf_get xs p hp]
  show (wOf xs p).due.length + (wOf xs p).held.length = _
  rw [← h2, ← h3]
  unfold telsOf
  rw [List.length_map, List.length_map]
end Go.Proofs.Ytoaajdmacngnjaa
namespace Go.BK
theorem WL.zeroT {P : Program} {w0 : World} {S0 : BSet} {n : Nat} {F : Fr} {r : List HP} {ops : Array Oper} {Q : Exit → Act → World → Prop} {rest : List Oper} {k e sz : Nat} (kk : WL P w0 S0 n ops Q rest F (.own e sz (.slice (some ⟨k, 0, none⟩) 0 0) 0 [] :: r)) : WL P w0 S0 n ops Q rest F (.blk k ([] : List Value).toArray e :: r) :=
  ⟨fun a w ha hs => kk.go a w ha (Go.Proofs.Ytoaajdmacngnjaa.St.zeroT hs)⟩
end Go.BK
namespace Go.Proofs.Ytoaajdmacngnjaa
open Go.RowKit Go.BK
theorem tel_pre (a b : List Tel) : (((a ++ b).flatMap telC).take (a.length * 2)).drop (0 * 2) = a.flatMap telC := by
  rw [List.flatMap_append, ← flat_tel a, List.take_left' rfl]
  rfl
theorem tel_last (a : List Tel) (t : Tel) : ((a ++ [t]).flatMap telC)[a.length * 2 + 0]? = some (i64 t.1) := by
  rw [List.flatMap_append, Nat.add_zero, ← flat_tel a, List.getElem?_append_right (Nat.le_refl _), Nat.sub_self]
  rfl
set_option maxHeartbeats 4000000 in
set_option maxRecDepth 8000 in
theorem wiresPlays_law (v : Value) (os : List OpW) (w : World) (S : BSet) (hS : (sepL []).sat S w) (hv : Sees w S (.row 4 v os.length (os.flatMap opWC))) (ho : ∀ o ∈ os, o.Good w S) (hm : muW os ≤ 1048576) :
    Tri Try.prog 3 #[v] w S fun u A => u = .bool true := by
  refine Tri.enter (l := [v]) Try.func3 rfl Try.ntmps3 rfl [(0, v)] (subA rfl) hS ?_
  have hol := len_mu os
  repeat first
    | (apply WL.q; exact rfl; exact rfl; exact rfl; (first | (apply EvW.assign; exact rfl)))
    | refine WC.seq ?_ | refine WC.region ?_ | refine WL.nil ?_ | refine WE.next ?_
  try refine WL.wanted rfl rfl rfl ?_
  apply WL.callA ([])
  · exact rfl
  · exact rfl
  · exact fun w => Try.call9 _ w
  · (focus ((repeat constructor); done))
  · exact fun w1 S1 hS1 hs1 ho1 => lives20_spec w1 S1 hS1
  rintro _ _ ⟨rfl, rfl⟩
  first | refine WL.app4 ?_ | refine WL.app3 ?_ | refine WL.app2 ?_ | refine WL.app1 ?_ | refine WL.app0 ?_ | skip
  repeat first
    | (apply WL.q; exact rfl; exact rfl; exact rfl; (first | (apply EvW.notT; exact rfl)))
    | refine WC.seq ?_ | refine WC.region ?_ | refine WL.nil ?_ | refine WE.next ?_ | refine WC.skip ?_ | refine WC.condF rfl ?_
  try refine WL.wanted rfl rfl rfl ?_
  apply WL.callA ([])
  · exact rfl
  · exact rfl
  · exact fun w => Try.call10 _ w
  · (focus ((repeat constructor); done))
  · exact fun w1 S1 hS1 hs1 ho1 => wnew_spec w1 S1 hS1
  rintro _ _ ⟨wb, rfl, rfl⟩
  first | refine WL.app4 ?_ | refine WL.app3 ?_ | refine WL.app2 ?_ | refine WL.app1 ?_ | refine WL.app0 ?_ | skip
  skip
  try refine WL.wanted rfl rfl rfl ?_
  apply WL.callA ([])
  · exact rfl
  · exact rfl
  · exact fun w => Try.call11 _ w
  · (focus ((repeat constructor); done))
  · exact fun w1 S1 hS1 hs1 ho1 => rwnew_spec w1 S1 hS1
  rintro _ _ ⟨rb, rfl, rfl⟩
  first | refine WL.app4 ?_ | refine WL.app3 ?_ | refine WL.app2 ?_ | refine WL.app1 ?_ | refine WL.app0 ?_ | skip
  repeat first
    | (apply WL.q; exact rfl; exact rfl; exact rfl; (first | (apply EvW.move; exact rfl) | (apply EvW.assign; exact rfl) | (apply EvW.lenRow; exact rfl; exact UndC.eq; assumption)))
    | refine WC.seq ?_ | refine WC.region ?_ | refine WL.nil ?_ | refine WE.next ?_ | refine WC.block ?_
  refine WC.loopK (σ := Nat × List Wr × (Int → Int) × List Tel × List Tel) [3, 4, 16, 17] (fun s => [(18, i64 s.1)]) (fun s => [wiresH wb s.2.1, docH rb s.2.2.1 s.2.2.2.1 s.2.2.2.2]) (fun s => s.1 ≤ os.length ∧ Inv (muW (os.take s.1)) s.2.1 ∧ Rel s.2.1 s.2.2.1 s.2.2.2.1 s.2.2.2.2) (fun s => os.length - s.1) (0, [], (fun _ => 0), [], []) (by (focus ((repeat (first | exact Pick.nil | (apply Pick.cons; exact rfl))); done))) (by (focus ((repeat (first | exact trivial | (refine ⟨rfl, ?_⟩))); done))) (fun _ h => h.keep (by repeat constructor)) ⟨Nat.zero_le _, inv_nil _, rel_nil⟩ (fun s hs => ?_)
  obtain ⟨i, xs, md, due, held⟩ := s
  simp only [List.cons_append, List.nil_append] at hs ⊢
  obtain ⟨hi0, hI, hR⟩ := hs
  have hund := rel_under hR hI.nodup
  have hul := hI.und
  have hml0 := muW_le os i
  by_cases hlt2 : (i : Int) < os.length
  · have hi : i < os.length := by omega
    have hmt := muW_take os i hi
    have hml := muW_le os (i + 1)
    have hog : (os.getD i default).Good w S := ho _ (by rw [List.getD_eq_getElem?_getD, List.getElem?_eq_getElem hi]; exact List.getElem_mem hi)
    have hone := opW_one hog
    obtain ⟨hor, hop, hotx⟩ := hog
    repeat first
      | (apply WL.q; exact rfl; exact rfl; exact rfl; (first | (apply EvW.cmpT; exact rfl; exact rfl; exact rfl; omega) | (apply EvW.idxRow; exact rfl; exact rfl; exact UndC.eq; exact SzC.eq; assumption; omega; omega)))
      | refine WC.seq ?_ | refine WC.region ?_ | refine WL.nil ?_ | refine WE.next ?_ | refine WC.block ?_ | refine WC.skip ?_ | refine WC.condT rfl ?_
    (apply WL.q; exact rfl; exact rfl; exact rfl; (apply EvW.ldElem (xs := os) (z := (default : OpW)) (f := opWC); exact rfl; exact AggC.eq; exact SzC.eq; exact rfl; exact fun _ => rfl; assumption; omega))
    try refine WL.wanted rfl rfl rfl ?_
    (apply WL.alloc; exact rfl; exact ZvC.eq; exact rfl; intro ob)
    rw [show ((i : Nat) : Int).toNat = i from rfl]
    obtain ⟨o, hoo⟩ : ∃ o, os.getD i default = o := ⟨_, rfl⟩
    rw [hoo] at hmt hor hop hotx hone ⊢
    unfold opMuW at hmt
    cases hset : o.set with
    | true =>
      repeat first
        | (apply WL.q; exact rfl; exact rfl; exact rfl; (first | (apply EvW.fieldAddr0; exact rfl; exact FldC.eq) | (apply EvW.load; exact rfl; exact ScalC.eq; (focus ((repeat constructor); done)); exact rfl)))
        | refine WC.seq ?_ | refine WC.region ?_ | refine WL.nil ?_ | refine WE.next ?_ | (apply WL.store; exact rfl; exact rfl; (first | assumption | exact rfl); exact SzC.eq; (first | assumption | exact rfl); (focus ((repeat constructor); done)))
      rw [hset]
      repeat first
        | refine WC.seq ?_ | refine WC.condT rfl ?_
      repeat refine WC.seq ?_
      refine WC.keep (xs := [wiresH wb xs, docH rb md due held, .blk ob #[.bool true, i64 o.p, i64 o.m, o.v] 30]) (by repeat constructor) ?_
      apply WC.par _ (fun c : Ch => [wiresH wb xs, wiresH wb (setF xs o.p o.m), docH rb md due held, docH rb (setD md o.p o.m) due held, .blk ob #[.bool true, i64 o.p, i64 o.m, o.v] 30]) [none, some 5, none, some 11, none] [some 5, none, some 11, none, none] [] Try.mixed
      · (focus ((repeat (first | exact Restr.nil | (apply Restr.keep; exact rfl; exact rfl) | (apply Restr.drop; exact rfl))); done))
      · intro c; exact (by repeat constructor)
      · exact rfl
      · decide +kernel
      · decide +kernel
      · intro c
        (apply Par.quiet _ [true, false, true, false, true]; exact rfl; decide +kernel; exact rfl; intro R; refine ⟨_, (by repeat constructor), ?_⟩;
             (first | (apply EvW.move; exact rfl)))
        (apply Par.quiet _ [true, false, true, false, true]; exact rfl; decide +kernel; exact rfl; intro R; refine ⟨_, (by repeat constructor), ?_⟩;
             (first | (apply EvW.fieldAddr0; exact rfl; exact FldC.eq)))
        (apply Par.quiet _ [true, false, true, false, true]; exact rfl; decide +kernel; exact rfl; intro R; refine ⟨_, (by repeat constructor), ?_⟩;
             (first | (apply EvW.load; exact rfl; exact ScalC.eq; (focus ((repeat constructor); done)); exact rfl)))
        (apply Par.quiet _ [true, false, true, false, true]; exact rfl; decide +kernel; exact rfl; intro R; refine ⟨_, (by repeat constructor), ?_⟩;
             (first | (apply EvW.fieldAddr0; exact rfl; exact FldC.eq)))
        (apply Par.quiet _ [true, false, true, false, true]; exact rfl; decide +kernel; exact rfl; intro R; refine ⟨_, (by repeat constructor), ?_⟩;
             (first | (apply EvW.load; exact rfl; exact ScalC.eq; (focus ((repeat constructor); done)); exact rfl)))
        apply Par.eff _ [true, false, false, false, false] [false, true, false, false, false] [false, false, true, false, true]
        · exact rfl
        · exact rfl
        · decide +kernel
        · intro R
          refine ⟨_, _, _, (by repeat constructor), (by repeat constructor), (by repeat constructor), ?_⟩
          apply EffW.callA ([wiresH wb xs])
          · exact rfl
          · exact fun w => Try.call12 _ w
          · (focus ((repeat constructor); done))
          · exact fun w1 S1 hS1 hs1 ho1 => set_spec wb xs o.p o.m w1 S1 hS1
          · exact fun _ _ h => h
          · exact fun _ h => TakeT.st (by (focus ((repeat (first | exact TakeT.tail | apply TakeT.cons | exact Take.head | apply Take.tail | apply TakeT.drop)); done))) h
        (apply Par.quiet _ [false, false, true, false, true]; exact rfl; decide +kernel; exact rfl; intro R; refine ⟨_, (by repeat constructor), ?_⟩;
             (first | (apply EvW.move; exact rfl)))
        (apply Par.quiet _ [false, false, true, false, true]; exact rfl; decide +kernel; exact rfl; intro R; refine ⟨_, (by repeat constructor), ?_⟩;
             (first | (apply EvW.fieldAddr0; exact rfl; exact FldC.eq)))
        (apply Par.quiet _ [false, false, true, false, true]; exact rfl; decide +kernel; exact rfl; intro R; refine ⟨_, (by repeat constructor), ?_⟩;
             (first | (apply EvW.load; exact rfl; exact ScalC.eq; (focus ((repeat constructor); done)); exact rfl)))
        (apply Par.quiet _ [false, false, true, false, true]; exact rfl; decide +kernel; exact rfl; intro R; refine ⟨_, (by repeat constructor), ?_⟩;
             (first | (apply EvW.fieldAddr0; exact rfl; exact FldC.eq)))
        (apply Par.quiet _ [false, false, true, false, true]; exact rfl; decide +kernel; exact rfl; intro R; refine ⟨_, (by repeat constructor), ?_⟩;
             (first | (apply EvW.load; exact rfl; exact ScalC.eq; (focus ((repeat constructor); done)); exact rfl)))
        apply Par.eff _ [false, false, true, false, false] [false, false, false, true, false] [false, true, false, false, true]
        · exact rfl
        · exact rfl
        · decide +kernel
        · intro R
          refine ⟨_, _, _, (by repeat constructor), (by repeat constructor), (by repeat constructor), ?_⟩
          apply EffW.callA ([docH rb md due held])
          · exact rfl
          · exact fun w => Try.call13 _ w
          · (focus ((repeat constructor); done))
          · exact fun w1 S1 hS1 hs1 ho1 => rset20_spec rb md due held o.p o.m w1 S1 hS1
          · exact fun _ _ h => h
          · exact fun _ h => TakeT.st (by (focus ((repeat (first | exact TakeT.tail | apply TakeT.cons | exact Take.head | apply Take.tail | apply TakeT.drop)); done))) h
        (apply Par.quiet _ [false, true, false, true, true]; exact rfl; decide +kernel; exact rfl; intro R; refine ⟨_, (by repeat constructor), ?_⟩;
             (first | (apply EvW.cmpF; exact rfl; exact rfl; exact rfl; omega)))
        exact Par.nil
      · repeat (first | exact AllN.nil | (apply AllN.cons; (intro c x; (repeat (first | exact IndA.nil | (apply IndA.skip; decide +kernel) | apply IndA.same))))) 
      · repeat (first | exact AllN.nil | (apply AllN.cons; (intro c x; (repeat (first | exact IndT.nil | (apply IndT.skip; decide +kernel) | apply IndT.same))))) 
      · exact fun _ => rfl
      intro c
      refine ⟨_, (by repeat constructor), ?_⟩
      apply WE.writ
      · (focus ((repeat (first | exact Writ.nil | apply Writ.some | apply Writ.none)); done))
      have hI2 : Inv (muW (os.take (i + 1))) (setF xs o.p o.m) := by
        have h := inv_setF (m := o.m) hI hop
        exact ⟨h.nodup, h.wf, by have := h.len; omega, by have := h.und; omega⟩
      repeat first
        | (apply WL.q; exact rfl; exact rfl; exact rfl; (first | (apply EvW.move; exact rfl) | (apply EvW.arN; exact rfl; exact rfl; exact rfl; refine i64_in ?_ ?_ <;> omega)))
        | refine WC.region ?_ | refine WL.nil ?_ | refine WE.next ?_ | refine WC.skip ?_ | refine WC.exit ?_ | refine WE.pass ?_ | refine WE.hit ?_ | refine WC.condF rfl ?_
      exact WE.again (s := (i, xs, md, due, held)) ((i + 1, setF xs o.p o.m, setD md o.p o.m, due, held)) ⟨by simp only []; omega, hI2, rel_set hR o.p o.m⟩ (by (focus ((repeat (first | exact trivial | (refine ⟨rfl, ?_⟩))); done))) (fun _ h => (by (try simp only []); exact h.keep (by repeat constructor))) (by (try simp only []); omega)
    | false =>
      repeat first
        | (apply WL.q; exact rfl; exact rfl; exact rfl; (first | (apply EvW.fieldAddr0; exact rfl; exact FldC.eq) | (apply EvW.load; exact rfl; exact ScalC.eq; (focus ((repeat constructor); done)); exact rfl)))
        | refine WC.seq ?_ | refine WC.region ?_ | refine WL.nil ?_ | refine WE.next ?_ | (apply WL.store; exact rfl; exact rfl; (first | assumption | exact rfl); exact SzC.eq; (first | assumption | exact rfl); (focus ((repeat constructor); done)))
      rw [hset]
      obtain ⟨hR2, hout⟩ := rel_pass hR o.ls
      have hK := keysD_of hR hI.nodup
      have hI2 : Inv (muW (os.take (i + 1))) (passF xs o.ls).1 := by
        have h := inv_pass (l := o.ls) hI (fun t ht => (hotx t ht).1)
        exact ⟨h.nodup, h.wf, by have := h.len; omega, by have := h.und; omega⟩
      have hbd := pass_bd xs o.ls hI.nodup
      rw [hout] at hbd
      have hu1 : underF xs + o.ls.length ≤ 2147483648 := by omega
      have hu2 : due.length + held.length + o.ls.length ≤ 2147483648 := by omega
      have hu3 : underF (passF xs o.ls).1 ≤ 2147483648 := by omega
      have hund2 := rel_under hR2 hI2.nodup
      repeat first
        | refine WC.seq ?_ | refine WC.region ?_ | refine WE.next ?_ | refine WC.skip ?_ | refine WC.condF rfl ?_
      try refine WL.wanted rfl rfl rfl ?_
      (apply WL.buildSlice; exact rfl; exact UndC.eq; exact SzC.eq; exact ZvC.eq; exact rfl; exact rfl; exact rfl; ((focus ((repeat (first | exact Flat.nil | (apply Flat.one; (first | exact rfl | assumption)) | (apply Flat.cons; exact rfl; exact rfl))); done))); exact rfl; exact rfl; intro k0)
      refine WL.zeroT (sz := 2) ?_
      repeat first
        | (apply WL.q; exact rfl; exact rfl; exact rfl; (first | (apply EvW.fieldAddr0; exact rfl; exact FldC.eq) | (apply EvW.load; exact rfl; exact ScalC.eq; (focus ((repeat constructor); done)); exact rfl)))
      try refine WL.wanted rfl rfl rfl ?_
      (apply WL.append; exact rfl; exact rfl; exact rfl; exact UndC.eq; exact SzC.eq; exact ByC.eq; exact ZvC.eq; exact rfl; (first | exact notInt_sl UndC.eq | exact notInt_st UndC.eq); exact rfl; (focus ((repeat constructor); done)))
      · exact adds_row hor (all_tel _)
      · (omega)
      intro x0
      refine WL.ownEq (cs' := o.ls.flatMap telC) (len' := o.ls.length) .head (Nat.zero_add _) (List.nil_append _) ?_
      (first | refine WL.slOwn (v := x0) (by repeat constructor) ?_ | refine WC.slOwn (v := x0) (by repeat constructor) ?_)
      intro hc_x0 ho_x0
      repeat first
        | (apply WL.q; exact rfl; exact rfl; exact rfl; (first | (apply EvW.build; exact PlC.eq; exact ZvC.eq; exact rfl; exact rfl; (focus ((repeat (first | exact Fills.nil | (apply Fills.cons; exact rfl; (first | assumption | exact rfl); exact rfl) | exact SetMany.nil | apply SetMany.cons | apply SetMany.succ)); done)))))
      try refine WL.wanted rfl rfl rfl ?_
      (apply WL.buildSlice; exact rfl; exact UndC.eq; exact SzC.eq; exact ZvC.eq; exact rfl; exact rfl; exact rfl; ((focus ((repeat (first | exact Flat.nil | (apply Flat.one; (first | exact rfl | assumption)) | (apply Flat.cons; exact rfl; exact rfl))); done))); exact rfl; exact rfl; intro k1)
      skip
      try refine WL.wanted rfl rfl rfl ?_
      (apply WL.append; exact rfl; exact rfl; exact rfl; exact UndC.eq; exact SzC.eq; exact ByC.eq; exact ZvC.eq; exact rfl; (first | exact notInt_sl UndC.eq | exact notInt_st UndC.eq); exact rfl; (focus ((repeat constructor); done)))
      · exact adds_blk .head rfl rfl
      · (omega)
      intro x1
      refine WL.ownEq (cs' := (o.ls ++ [((-7 : Int), ([] : Txt))]).flatMap telC) (len' := o.ls.length + 1) .head rfl (by rw [flat_snoc]; rfl) ?_
      (first | refine WL.slOwn (v := x1) (by repeat constructor) ?_ | refine WC.slOwn (v := x1) (by repeat constructor) ?_)
      intro hc_x1 ho_x1
      repeat first
        | (apply WL.q; exact rfl; exact rfl; exact rfl; (first | (apply EvW.move; exact rfl) | (apply EvW.assign; exact rfl) | (apply EvW.fieldAddr0; exact rfl; exact FldC.eq) | (apply EvW.load; exact rfl; exact ScalC.eq; (focus ((repeat constructor); done)); exact rfl) | (apply EvW.lenRow; exact rfl; exact UndC.eq; assumption) | (apply EvW.sliceOwn_hi; exact rfl; exact UndC.eq; exact SzC.eq; (focus ((repeat constructor); done)); exact rfl; omega; omega)))
        | refine WC.seq ?_ | refine WC.region ?_ | refine WL.nil ?_ | refine WE.next ?_
      try refine WL.wanted rfl rfl rfl ?_
      apply WL.callA ([wiresH wb xs])
      · exact rfl
      · exact rfl
      · exact fun w => Try.call14 _ w
      · (focus ((repeat constructor); done))
      · exact fun w1 S1 hS1 hs1 ho1 => pass_spec wb xs (subSl 2 0 o.ls.length x1) o.ls w1 S1 hS1 (by have h := ((ho1 (.own 34 2 (x1) (o.ls.length + 1) ((o.ls ++ [((-7 : Int), ([] : Txt))]).flatMap telC)) _ (by repeat constructor)).own).subRow (lo := 0) (hi := o.ls.length) (Nat.zero_le _) (Nat.le_succ _); rw [tel_pre] at h; exact h) (hI.ok (by omega)) hu1 (fun t ht => (hotx t ht).2)
      rintro _ _ rfl
      first | refine WL.app4 ?_ | refine WL.app3 ?_ | refine WL.app2 ?_ | refine WL.app1 ?_ | refine WL.app0 ?_ | skip
      rename_i x2
      rw [hout]
      obtain ⟨D, hD⟩ : ∃ D, dPass md due held o.ls (keysD xs due held) = D := ⟨_, rfl⟩
      rw [hD] at hR2 hbd hund2 ⊢
      generalize (passF xs o.ls).1 = ys at hR2 hI2 hu3 hund2 hbd ⊢
      (first | refine WL.slOwn (v := x2) (by repeat constructor) ?_ | refine WC.slOwn (v := x2) (by repeat constructor) ?_)
      intro hc_x2 ho_x2
      repeat first
        | (apply WL.q; exact rfl; exact rfl; exact rfl; (first | (apply EvW.move; exact rfl) | (apply EvW.assign; exact rfl) | (apply EvW.fieldAddr0; exact rfl; exact FldC.eq) | (apply EvW.load; exact rfl; exact ScalC.eq; (focus ((repeat constructor); done)); exact rfl)))
        | refine WC.seq ?_ | refine WC.region ?_ | refine WL.nil ?_ | refine WE.next ?_
      try refine WL.wanted rfl rfl rfl ?_
      apply WL.callA ([docH rb md due held])
      · exact rfl
      · exact rfl
      · exact fun w => Try.call15 _ w
      · (focus ((repeat constructor); done))
      · exact fun w1 S1 hS1 hs1 ho1 => rpass20_spec rb md due held o.v o.ls (keysD xs due held) w1 S1 hS1 (hs1 _ hor) hK hu2 (fun t ht => (hotx t ht).2)
      rintro _ _ rfl
      first | refine WL.app4 ?_ | refine WL.app3 ?_ | refine WL.app2 ?_ | refine WL.app1 ?_ | refine WL.app0 ?_ | skip
      rename_i x3
      rw [hD]
      have hDl : D.1.length ≤ 4294967296 := by omega
      have hDu : D.2.1.length + D.2.2.length ≤ 4294967296 := by omega
      (first | refine WL.slOwn (v := x3) (by repeat constructor) ?_ | refine WC.slOwn (v := x3) (by repeat constructor) ?_)
      intro hc_x3 ho_x3
      repeat first
        | (apply WL.q; exact rfl; exact rfl; exact rfl; (first | (apply EvW.assign; exact rfl)))
        | refine WC.seq ?_ | refine WL.nil ?_ | refine WE.next ?_
      repeat refine WC.seq ?_
      refine WC.keep (xs := [wiresH wb ys, docH rb md D.2.1 D.2.2, .own 34 2 (x2) (D.1).length ((D.1).flatMap telC), .own 34 2 (x3) (D.1).length ((D.1).flatMap telC), .own 34 2 (x1) (o.ls.length + 1) ((o.ls ++ [((-7 : Int), ([] : Txt))]).flatMap telC), .blk ob #[.bool false, i64 o.p, i64 o.m, o.v] 30]) (by repeat constructor) ?_
      apply WC.par _ (fun c : Ch => [wiresH wb ys, docH rb md D.2.1 D.2.2, .own 34 2 (x2) (D.1).length ((D.1).flatMap telC), .own 34 2 (x3) (D.1).length ((D.1).flatMap telC), .own 34 2 (x1) (o.ls.length + 1) ((o.ls ++ [((-7 : Int), ([] : Txt))]).flatMap telC), .blk ob #[.bool false, i64 o.p, i64 o.m, o.v] 30]) [none, none, none, none, none, none] [none, none, none, none, none, none] [] Try.mixed
      · (focus ((repeat (first | exact Restr.nil | (apply Restr.keep; exact rfl; exact rfl) | (apply Restr.drop; exact rfl))); done))
      · intro c; exact (by repeat constructor)
      · exact rfl
      · decide +kernel
      · decide +kernel
      · intro c
        (apply Par.quiet _ [true, true, true, true, true, true]; exact rfl; decide +kernel; exact rfl; intro R; refine ⟨_, (by repeat constructor), ?_⟩;
             (first | (apply EvW.move; exact rfl)))
        (apply Par.quiet _ [true, true, true, true, true, true]; exact rfl; decide +kernel; exact rfl; intro R; refine ⟨_, (by repeat constructor), ?_⟩;
             (first | (apply EvW.move; exact rfl)))
        apply Par.quiet _ [true, true, true, true, true, true]
        · exact rfl
        · decide +kernel
        · exact rfl
        · intro R
          refine ⟨_, (by repeat constructor), ?_⟩
          apply EvW.callK ([])
          · exact rfl
          · exact fun w => Try.call16 _ w
          · (focus ((repeat constructor); done))
          · exact fun w1 S1 hS1 hs1 ho1 => sameTels_spec x2 x3 D.1 w1 S1 hS1 (ho1 (.own 34 2 (x2) (D.1).length ((D.1).flatMap telC)) _ (by repeat constructor)).own (ho1 (.own 34 2 (x3) (D.1).length ((D.1).flatMap telC)) _ (by repeat constructor)).own hDl
          · exact fun _ _ h => h
        (apply Par.quiet _ [true, true, true, true, true, true]; exact rfl; decide +kernel; exact rfl; intro R; refine ⟨_, (by repeat constructor), ?_⟩;
             (first | (apply EvW.notT; exact rfl)))
        (apply Par.quiet _ [true, true, true, true, true, true]; exact rfl; decide +kernel; exact rfl; intro R; refine ⟨_, (by repeat constructor), ?_⟩;
             (first | (apply EvW.move; exact rfl)))
        first
          | (apply Par.skip; exact rfl; decide +kernel; exact rfl)
          | (apply Par.quiet _ [true, true, true, true, true, true]; exact rfl; decide +kernel; exact rfl; intro R; refine ⟨_, (by repeat constructor), ?_⟩;
             (first | (apply EvW.move; exact rfl)))
        apply Par.quiet _ [true, true, true, true, true, true]
        · exact rfl
        · decide +kernel
        · exact rfl
        · intro R
          refine ⟨_, (by repeat constructor), ?_⟩
          apply EvW.callK ([])
          · exact rfl
          · exact fun w => Try.call17 _ w
          · (focus ((repeat constructor); done))
          · exact fun w1 S1 hS1 hs1 ho1 => under_spec wb ys w1 S1 hS1 (ho1 (wiresH wb ys) _ (by repeat constructor)) hI2.nodup hu3
          · exact fun _ _ h => h
        first
          | (apply Par.skip; exact rfl; decide +kernel; exact rfl)
          | (apply Par.quiet _ [true, true, true, true, true, true]; exact rfl; decide +kernel; exact rfl; intro R; refine ⟨_, (by repeat constructor), ?_⟩;
             (first | (apply EvW.move; exact rfl)))
        apply Par.quiet _ [true, true, true, true, true, true]
        · exact rfl
        · decide +kernel
        · exact rfl
        · intro R
          refine ⟨_, (by repeat constructor), ?_⟩
          apply EvW.callK ([])
          · exact rfl
          · exact fun w => Try.call18 _ w
          · (focus ((repeat constructor); done))
          · exact fun w1 S1 hS1 hs1 ho1 => runder20_spec rb md D.2.1 D.2.2 w1 S1 hS1 (ho1 (docH rb md D.2.1 D.2.2) _ (by repeat constructor)) hDu
          · exact fun _ _ h => h
        first
          | (apply Par.skip; exact rfl; decide +kernel; exact rfl)
          | (apply Par.quiet _ [true, true, true, true, true, true]; exact rfl; decide +kernel; exact rfl; intro R; refine ⟨_, (by repeat constructor), ?_⟩;
             (first | (apply EvW.cmpF; exact rfl; exact rfl; exact rfl; omega)))
        (apply Par.quiet _ [true, true, true, true, true, true]; exact rfl; decide +kernel; exact rfl; intro R; refine ⟨_, (by repeat constructor), ?_⟩;
             (first | (apply EvW.pickF; exact rfl; exact rfl)))
        (apply Par.quiet _ [true, true, true, true, true, true]; exact rfl; decide +kernel; exact rfl; intro R; refine ⟨_, (by repeat constructor), ?_⟩;
             (first | (apply EvW.move; exact rfl)))
        first
          | (apply Par.skip; exact rfl; decide +kernel; exact rfl)
          | (apply Par.quiet _ [true, true, true, true, true, true]; exact rfl; decide +kernel; exact rfl; intro R; refine ⟨_, (by repeat constructor), ?_⟩;
             (first | (apply EvW.move; exact rfl)))
        first
          | (apply Par.skip; exact rfl; decide +kernel; exact rfl)
          | (apply Par.quiet _ [true, true, true, true, true, true]; exact rfl; decide +kernel; exact rfl; intro R; refine ⟨_, (by repeat constructor), ?_⟩;
             (first | (apply EvW.fieldAddr0; exact rfl; exact FldC.eq)))
        first
          | (apply Par.skip; exact rfl; decide +kernel; exact rfl)
          | (apply Par.quiet _ [true, true, true, true, true, true]; exact rfl; decide +kernel; exact rfl; intro R; refine ⟨_, (by repeat constructor), ?_⟩;
             (first | (apply EvW.load; exact rfl; exact ScalC.eq; (focus ((repeat constructor); done)); exact rfl)))
        first
          | (apply Par.skip; exact rfl; decide +kernel; exact rfl)
          | (apply Par.quiet _ [true, true, true, true, true, true]; exact rfl; decide +kernel; exact rfl; intro R; refine ⟨_, (by repeat constructor), ?_⟩;
             (first | (apply EvW.lenRow; exact rfl; exact UndC.eq; assumption)))
        first
          | (apply Par.skip; exact rfl; decide +kernel; exact rfl)
          | (apply Par.quiet _ [true, true, true, true, true, true]; exact rfl; decide +kernel; exact rfl; intro R; refine ⟨_, (by repeat constructor), ?_⟩;
             (first | (apply EvW.sliceOwn_hi; exact rfl; exact UndC.eq; exact SzC.eq; (focus ((repeat constructor); done)); exact rfl; omega; omega)))
        first
          | (apply Par.skip; exact rfl; decide +kernel; exact rfl)
          | (apply Par.quiet _ [true, true, true, true, true, true]; exact rfl; decide +kernel; exact rfl; intro R; refine ⟨_, (by repeat constructor), ?_⟩;
             (first | (apply EvW.fieldAddr0; exact rfl; exact FldC.eq)))
        first
          | (apply Par.skip; exact rfl; decide +kernel; exact rfl)
          | (apply Par.quiet _ [true, true, true, true, true, true]; exact rfl; decide +kernel; exact rfl; intro R; refine ⟨_, (by repeat constructor), ?_⟩;
             (first | (apply EvW.load; exact rfl; exact ScalC.eq; (focus ((repeat constructor); done)); exact rfl)))
        apply Par.quiet _ [true, true, true, true, true, true]
        · exact rfl
        · decide +kernel
        · exact rfl
        · intro R
          refine ⟨_, (by repeat constructor), ?_⟩
          apply EvW.callK ([])
          · exact rfl
          · exact fun w => Try.call16 _ w
          · (focus ((repeat constructor); done))
          · exact fun w1 S1 hS1 hs1 ho1 => sameTels_spec (subSl 2 0 o.ls.length x1) o.v o.ls w1 S1 hS1 (by have h := ((ho1 (.own 34 2 (x1) (o.ls.length + 1) ((o.ls ++ [((-7 : Int), ([] : Txt))]).flatMap telC)) _ (by repeat constructor)).own).subRow (lo := 0) (hi := o.ls.length) (Nat.zero_le _) (Nat.le_succ _); rw [tel_pre] at h; exact h) (hs1 _ hor) (by omega)
          · exact fun _ _ h => h
        first
          | (apply Par.skip; exact rfl; decide +kernel; exact rfl)
          | (apply Par.quiet _ [true, true, true, true, true, true]; exact rfl; decide +kernel; exact rfl; intro R; refine ⟨_, (by repeat constructor), ?_⟩;
             (first | (apply EvW.notT; exact rfl)))
        (apply Par.quiet _ [true, true, true, true, true, true]; exact rfl; decide +kernel; exact rfl; intro R; refine ⟨_, (by repeat constructor), ?_⟩;
             (first | (apply EvW.pickF; exact rfl; exact rfl)))
        (apply Par.quiet _ [true, true, true, true, true, true]; exact rfl; decide +kernel; exact rfl; intro R; refine ⟨_, (by repeat constructor), ?_⟩;
             (first | (apply EvW.move; exact rfl)))
        first
          | (apply Par.skip; exact rfl; decide +kernel; exact rfl)
          | (apply Par.quiet _ [true, true, true, true, true, true]; exact rfl; decide +kernel; exact rfl; intro R; refine ⟨_, (by repeat constructor), ?_⟩;
             (first | (apply EvW.move; exact rfl)))
        first
          | (apply Par.skip; exact rfl; decide +kernel; exact rfl)
          | (apply Par.quiet _ [true, true, true, true, true, true]; exact rfl; decide +kernel; exact rfl; intro R; refine ⟨_, (by repeat constructor), ?_⟩;
             (first | (apply EvW.fieldAddr0; exact rfl; exact FldC.eq)))
        first
          | (apply Par.skip; exact rfl; decide +kernel; exact rfl)
          | (apply Par.quiet _ [true, true, true, true, true, true]; exact rfl; decide +kernel; exact rfl; intro R; refine ⟨_, (by repeat constructor), ?_⟩;
             (first | (apply EvW.load; exact rfl; exact ScalC.eq; (focus ((repeat constructor); done)); exact rfl)))
        first
          | (apply Par.skip; exact rfl; decide +kernel; exact rfl)
          | (apply Par.quiet _ [true, true, true, true, true, true]; exact rfl; decide +kernel; exact rfl; intro R; refine ⟨_, (by repeat constructor), ?_⟩;
             (first | (apply EvW.lenRow; exact rfl; exact UndC.eq; assumption)))
        first
          | (apply Par.skip; exact rfl; decide +kernel; exact rfl)
          | (apply Par.quiet _ [true, true, true, true, true, true]; exact rfl; decide +kernel; exact rfl; intro R; refine ⟨_, (by repeat constructor), ?_⟩;
             (first | (apply EvW.idxOwn; exact rfl; exact rfl; exact UndC.eq; exact SzC.eq; (focus ((repeat constructor); done)); omega; omega)))
        first
          | (apply Par.skip; exact rfl; decide +kernel; exact rfl)
          | (apply Par.quiet _ [true, true, true, true, true, true]; exact rfl; decide +kernel; exact rfl; intro R; refine ⟨_, (by repeat constructor), ?_⟩;
             (first | (apply EvW.fldOwn; exact rfl; exact FldC.eq; (focus ((repeat constructor); done)); omega)))
        apply Par.quiet _ [true, true, true, true, true, true]
        · exact rfl
        · decide +kernel
        · exact rfl
        · intro R
          refine ⟨_, (by repeat constructor), ?_⟩
          (apply EvW.ldOwn (i := o.ls.length) (off := 0) (q := i64 (-7)); exact rfl; exact ScalC.eq; (focus ((repeat constructor); done)); exact tel_last o.ls _)
        first
          | (apply Par.skip; exact rfl; decide +kernel; exact rfl)
          | (apply Par.quiet _ [true, true, true, true, true, true]; exact rfl; decide +kernel; exact rfl; intro R; refine ⟨_, (by repeat constructor), ?_⟩;
             (first | (apply EvW.cmpF; exact rfl; exact rfl; exact rfl; omega)))
        (apply Par.quiet _ [true, true, true, true, true, true]; exact rfl; decide +kernel; exact rfl; intro R; refine ⟨_, (by repeat constructor), ?_⟩;
             (first | (apply EvW.pickF; exact rfl; exact rfl)))
        exact Par.nil
      · repeat (first | exact AllN.nil | (apply AllN.cons; (intro c x; (repeat (first | exact IndA.nil | (apply IndA.skip; decide +kernel) | apply IndA.same))))) 
      · repeat (first | exact AllN.nil | (apply AllN.cons; (intro c x; (repeat (first | exact IndT.nil | (apply IndT.skip; decide +kernel) | apply IndT.same))))) 
      · exact fun _ => rfl
      intro c
      refine ⟨_, (by repeat constructor), ?_⟩
      apply WE.writ
      · (focus ((repeat (first | exact Writ.nil | apply Writ.some | apply Writ.none)); done))
      repeat first
        | (apply WL.q; exact rfl; exact rfl; exact rfl; (first | (apply EvW.move; exact rfl) | (apply EvW.lenOwn; exact rfl; exact UndC.eq; (focus ((repeat constructor); done)))))
        | refine WC.seq ?_ | refine WC.region ?_ | refine WL.nil ?_ | refine WE.next ?_ | refine WC.block ?_ | refine WC.skip ?_ | refine WC.condF rfl ?_
      refine WC.loopK (σ := Nat × List Value) [3, 4, 7, 8, 16, 17, 18, 88] (fun s => [(89, i64 s.1)]) (fun s => [.own 34 2 (x2) (D.1.length) (s.2), wiresH wb ys, docH rb md D.2.1 D.2.2, .own 34 2 (x1) (o.ls.length + 1) ((o.ls ++ [((-7 : Int), ([] : Txt))]).flatMap telC)]) (fun s => s.1 ≤ D.1.length ∧ s.2.length = D.1.length * 2) (fun s => D.1.length - s.1) (0, D.1.flatMap telC) (by (focus ((repeat (first | exact Pick.nil | (apply Pick.cons; exact rfl))); done))) (by (focus ((repeat (first | exact trivial | (refine ⟨rfl, ?_⟩))); done))) (fun _ h => h.keep (by repeat constructor)) ⟨Nat.zero_le _, flat_telS _⟩ (fun s hs => ?_)
      obtain ⟨j, cs⟩ := s
      simp only [List.cons_append, List.nil_append] at hs ⊢
      obtain ⟨hj0, hcs⟩ := hs
      by_cases hlt3 : (j : Int) < D.1.length
      · repeat first
          | (apply WL.q; exact rfl; exact rfl; exact rfl; (first | (apply EvW.move; exact rfl) | (apply EvW.assign; exact rfl) | (apply EvW.cmpT; exact rfl; exact rfl; exact rfl; omega) | (apply EvW.build; exact PlC.eq; exact ZvC.eq; exact rfl; exact rfl; (focus ((repeat (first | exact Fills.nil | (apply Fills.cons; exact rfl; (first | assumption | exact rfl); exact rfl) | exact SetMany.nil | apply SetMany.cons | apply SetMany.succ)); done))) | (apply EvW.idxOwn; exact rfl; exact rfl; exact UndC.eq; exact SzC.eq; (focus ((repeat constructor); done)); omega; omega)))
          | refine WC.seq ?_ | refine WC.region ?_ | refine WL.nil ?_ | refine WE.next ?_ | refine WC.block ?_ | refine WC.skip ?_ | refine WC.condT rfl ?_
        (apply WL.stOwn (i := j) (off := 0) (ys := [i64 (-9), str []]); exact rfl; exact rfl; exact rfl; exact SzC.eq; exact rfl; exact rfl; (focus ((repeat constructor); done)); (show j * 2 + 0 + 2 ≤ _; omega); exact Take.head)
        have hov : (over cs (j * 2 + 0) [i64 (-9), str []]).length = D.1.length * 2 := by rw [over_length (by show j * 2 + 0 + 2 ≤ _; omega)]; exact hcs
        repeat first
          | (apply WL.q; exact rfl; exact rfl; exact rfl; (first | (apply EvW.move; exact rfl) | (apply EvW.arN; exact rfl; exact rfl; exact rfl; refine i64_in ?_ ?_ <;> omega)))
          | refine WC.region ?_ | refine WL.nil ?_ | refine WE.next ?_ | refine WE.out ?_
        exact WE.again (s := (j, cs)) ((j + 1, over cs (j * 2 + 0) [i64 (-9), str []])) ⟨by simp only []; omega, hov⟩ (by (focus ((repeat (first | exact trivial | (refine ⟨rfl, ?_⟩))); done))) (fun _ h => (by (try simp only []); exact h.keep (by repeat constructor))) (by (try simp only []); omega)
      repeat first
        | (apply WL.q; exact rfl; exact rfl; exact rfl; (first | (apply EvW.move; exact rfl) | (apply EvW.cmpF; exact rfl; exact rfl; exact rfl; omega) | (apply EvW.lenOwn; exact rfl; exact UndC.eq; (focus ((repeat constructor); done)))))
        | refine WC.seq ?_ | refine WC.region ?_ | refine WL.nil ?_ | refine WE.next ?_ | refine WC.block ?_ | refine WC.exit ?_ | refine WE.pass ?_ | refine WE.hit ?_ | refine WC.condF rfl ?_
      refine WC.loopK (σ := Nat × List Value) [3, 4, 7, 16, 17, 18, 98] (fun s => [(99, i64 s.1)]) (fun s => [.own 34 2 (x1) (o.ls.length + 1) (s.2), wiresH wb ys, docH rb md D.2.1 D.2.2]) (fun s => s.1 ≤ o.ls.length + 1 ∧ s.2.length = (o.ls.length + 1) * 2) (fun s => o.ls.length + 1 - s.1) (0, (o.ls ++ [((-7 : Int), ([] : Txt))]).flatMap telC) (by (focus ((repeat (first | exact Pick.nil | (apply Pick.cons; exact rfl))); done))) (by (focus ((repeat (first | exact trivial | (refine ⟨rfl, ?_⟩))); done))) (fun _ h => h.keep (by repeat constructor)) ⟨Nat.zero_le _, by rw [flat_telS, len_snoc]⟩ (fun s hs => ?_)
      obtain ⟨j, cs2⟩ := s
      simp only [List.cons_append, List.nil_append] at hs ⊢
      obtain ⟨hj1, hcs2⟩ := hs
      by_cases hlt4 : (j : Int) < (o.ls.length : Int) + 1
      · repeat first
          | (apply WL.q; exact rfl; exact rfl; exact rfl; (first | (apply EvW.move; exact rfl) | (apply EvW.assign; exact rfl) | (apply EvW.cmpT; exact rfl; exact rfl; exact rfl; omega) | (apply EvW.build; exact PlC.eq; exact ZvC.eq; exact rfl; exact rfl; (focus ((repeat (first | exact Fills.nil | (apply Fills.cons; exact rfl; (first | assumption | exact rfl); exact rfl) | exact SetMany.nil | apply SetMany.cons | apply SetMany.succ)); done))) | (apply EvW.idxOwn; exact rfl; exact rfl; exact UndC.eq; exact SzC.eq; (focus ((repeat constructor); done)); omega; omega)))
          | refine WC.seq ?_ | refine WC.region ?_ | refine WL.nil ?_ | refine WE.next ?_ | refine WC.block ?_ | refine WC.skip ?_ | refine WC.condT rfl ?_
        (apply WL.stOwn (i := j) (off := 0) (ys := [i64 (-9), str []]); exact rfl; exact rfl; exact rfl; exact SzC.eq; exact rfl; exact rfl; (focus ((repeat constructor); done)); (show j * 2 + 0 + 2 ≤ _; omega); exact Take.head)
        have hov2 : (over cs2 (j * 2 + 0) [i64 (-9), str []]).length = (o.ls.length + 1) * 2 := by rw [over_length (by show j * 2 + 0 + 2 ≤ _; omega)]; exact hcs2
        repeat first
          | (apply WL.q; exact rfl; exact rfl; exact rfl; (first | (apply EvW.move; exact rfl) | (apply EvW.arN; exact rfl; exact rfl; exact rfl; refine i64_in ?_ ?_ <;> omega)))
          | refine WC.region ?_ | refine WL.nil ?_ | refine WE.next ?_ | refine WE.out ?_
        exact WE.again (s := (j, cs2)) ((j + 1, over cs2 (j * 2 + 0) [i64 (-9), str []])) ⟨by simp only []; omega, hov2⟩ (by (focus ((repeat (first | exact trivial | (refine ⟨rfl, ?_⟩))); done))) (fun _ h => (by (try simp only []); exact h.keep (by repeat constructor))) (by (try simp only []); omega)
      repeat first
        | (apply WL.q; exact rfl; exact rfl; exact rfl; (first | (apply EvW.move; exact rfl) | (apply EvW.cmpF; exact rfl; exact rfl; exact rfl; omega) | (apply EvW.arN; exact rfl; exact rfl; exact rfl; refine i64_in ?_ ?_ <;> omega)))
        | refine WC.seq ?_ | refine WC.region ?_ | refine WL.nil ?_ | refine WE.next ?_ | refine WC.exit ?_ | refine WE.pass ?_ | refine WE.hit ?_ | refine WE.out ?_ | refine WC.condF rfl ?_
      exact WE.again (s := (i, xs, md, due, held)) ((i + 1, ys, md, D.2.1, D.2.2)) ⟨by simp only []; omega, hI2, hR2⟩ (by (focus ((repeat (first | exact trivial | (refine ⟨rfl, ?_⟩))); done))) (fun _ h => (by (try simp only []); exact h.keep (by repeat constructor))) (by (try simp only []); omega)
  have hu1 : underF xs ≤ 2147483648 := by omega
  have hu2 : due.length + held.length ≤ 4294967296 := by omega
  repeat first
    | (apply WL.q; exact rfl; exact rfl; exact rfl; (first | (apply EvW.move; exact rfl) | (apply EvW.cmpF; exact rfl; exact rfl; exact rfl; omega)))
    | refine WC.seq ?_ | refine WC.region ?_ | refine WL.nil ?_ | refine WE.next ?_ | refine WC.exit ?_ | refine WE.pass ?_ | refine WE.hit ?_ | refine WC.condF rfl ?_
  try refine WL.wanted rfl rfl rfl ?_
  apply WL.callA ([])
  · exact rfl
  · exact rfl
  · exact fun w => Try.call17 _ w
  · (focus ((repeat constructor); done))
  · exact fun w1 S1 hS1 hs1 ho1 => under_spec wb xs w1 S1 hS1 (ho1 (wiresH wb xs) _ (by repeat constructor)) hI.nodup hu1
  rintro _ _ ⟨rfl, rfl⟩
  first | refine WL.app4 ?_ | refine WL.app3 ?_ | refine WL.app2 ?_ | refine WL.app1 ?_ | refine WL.app0 ?_ | skip
  repeat first
    | (apply WL.q; exact rfl; exact rfl; exact rfl; (first | (apply EvW.move; exact rfl)))
  try refine WL.wanted rfl rfl rfl ?_
  apply WL.callA ([])
  · exact rfl
  · exact rfl
  · exact fun w => Try.call18 _ w
  · (focus ((repeat constructor); done))
  · exact fun w1 S1 hS1 hs1 ho1 => runder20_spec rb md due held w1 S1 hS1 (ho1 (docH rb md due held) _ (by repeat constructor)) hu2
  rintro _ _ ⟨rfl, rfl⟩
  first | refine WL.app4 ?_ | refine WL.app3 ?_ | refine WL.app2 ?_ | refine WL.app1 ?_ | refine WL.app0 ?_ | skip
  repeat first
    | (apply WL.q; exact rfl; exact rfl; exact rfl; (first | (apply EvW.assign; exact rfl) | (apply EvW.cmpT; exact rfl; exact rfl; exact rfl; omega)))
    | refine WL.nil ?_ | refine WE.next ?_ | refine WC.ret ?_
  refine WE.keep (xs := []) (by repeat constructor) ?_
  refine WE.ret1 rfl rfl ?_
  rfl
end Go.Proofs.Ytoaajdmacngnjaa
namespace Go.Proofs.Ytoaajdmacngnjaa
open Go.ChangeShapes Go.WideShapes Go.ChangeAt Go.RowKit Go.BK
set_option maxRecDepth 100000 in
theorem wiresPlays_lifted (os : Os) (started : os.Started) (H : Type) (enc : TypeId × Value → H) (F : Stop.Interp) :
    ReturnsInHanded {} Try.checked os 3 .any ((Rows.OpenSpec.upto Rows.wiresPlaysSpec).pre6 enc Try.prog Try.f3 Rows.wiresPlaysUptoRow.domain false) (((Rows.OpenSpec.upto Rows.wiresPlaysSpec).at F).post enc Try.prog Try.f3 false true false false) := by
  refine law_liftedU (C := Try.checked) (s := Rows.wiresPlaysSpec) (tb := 4) Try.own started (by kernel_rfl) Try.func3 rfl Try.underlying4 rfl Try.laidOut (by kernel_rfl) (by intro ds h; match ds, h with | [d0], _ => rfl)
    (OpenSpec.witness (enc := enc) (C := Try.checked) (s := Rows.OpenSpec.upto Rows.wiresPlaysSpec) (k := Rows.uptoSmall) rfl false ⟨#[], #[.slice none 0 0], []⟩ 8 (by kernel_rfl) (by kernel_rfl) (by kernel_rfl)
      (x := ([.nil], [], [])) (by kernel_rfl) rfl (by kernel_rfl)) ?_
  intro W base args ds p hval hA0 hk
  have hA : DataW.TrodAll enc Try.prog W 0 (fun _ => true) true Try.f3.params.toList args.toList ds p := hA0
  rw [Try.params3] at hA hval
  clear hA0
  obtain ⟨v0, d0, rfl, rfl, h0⟩ := trodAll_one hA
  obtain ⟨os, hx, hq, hb⟩ := argU_slice (sz := 4) Try.underlying22 (by kernel_rfl) (by decide) (fun _ => rfl) opensU_opw (hval 0 22 v0 rfl rfl) h0
  simp only [Rows.uptoBulkAll, Rows.uptoBulk] at hk
  obtain ⟨h3, h4⟩ := ops_small (os := os) (B := 1048576) (by omega)
  exact (wiresPlays_law v0 os W _ (fun _ h => h) hx (ops_good hq h4) h3).law (fun _ _ h => h)
theorem wiresPlays_holds : Rows.WiresPlaysUptoSaid :=
  OpenClaim.holds_of_cond 3 Try.f3 rfl rfl rfl rfl rfl rfl rfl ⟨rfl, rfl, rfl, rfl, rfl⟩ rfl rfl rfl rfl rfl (by kernel_rfl) Try.func3 (by kernel_rfl)
    (of_decide_eq_true (by kernel_rfl)) (by unfold Func.isWrapper; first | (rw [if_pos (by decide +kernel)]; kernel_rfl) | (rw [if_neg (by decide +kernel)]; exact ⟨rfl, rfl⟩))
    (fun os started H enc _ F => wiresPlays_lifted os started H enc F)
end Go.Proofs.Ytoaajdmacngnjaa
