/- Own lemmas: the texts ImageI, ImageJ, ImageK, ImageL, LinkD, LinkF, ImageM, ImageN, ImageQ, LibU, PackO. -/
import Derived.JoinedCond
import Derived.OpenShut
import Derived.Test.YtamofjpadnnppaaRows
import Derived.Test.YtamofjpadnnppaaImagePaM5
namespace Go.Proofs.Ytamofjpadnnppaa
open Go.RowKit Go.BK
def RImg.lk (x : RImg) (c : Cfg) (now oc el worst : Int) (f : Got → List Int) (sel : Q4 → List Int) : Int × Int × Bool := lookP (aliveP x.st now c.age oc) (atF (f (shp c oc)) el) (sel (x.sdOf oc)) (x.st oc) worst
def RImg.occ (x : RImg) (c : Cfg) (now : Int) (i : Nat) : Looks := (List.range i).map fun (k : Nat) => x.lk c now (c.secs.getD k default).oc k 1 (·.1) Q4.la
def RImg.pos (x : RImg) (c : Cfg) (now : Int) (i : Nat) : Looks := (List.range i).map fun (k : Nat) => x.lk c now (c.secs.getD k default).oc k 0 (·.2.1) Q4.lb
def RImg.shut (x : RImg) (c : Cfg) (now : Int) (i : Nat) : Looks := (List.range i).map fun (k : Nat) => x.lk c now (ocOf c (c.crs.getD k 0)) k 0 (·.2.2.1) Q4.ly
def RImg.lamp (x : RImg) (c : Cfg) (now : Int) (i : Nat) : Looks := (List.range i).map fun (k : Nat) => x.lk c now (ocOf c (c.sigs.getD k default).s) k 0 (·.2.2.2) Q4.ld
theorem RImg.occ_len (x : RImg) (c : Cfg) (now : Int) (i : Nat) : (x.occ c now i).length = i := by simp [RImg.occ]
theorem RImg.pos_len (x : RImg) (c : Cfg) (now : Int) (i : Nat) : (x.pos c now i).length = i := by simp [RImg.pos]
theorem RImg.shut_len (x : RImg) (c : Cfg) (now : Int) (i : Nat) : (x.shut c now i).length = i := by simp [RImg.shut]
theorem RImg.lamp_len (x : RImg) (c : Cfg) (now : Int) (i : Nat) : (x.lamp c now i).length = i := by simp [RImg.lamp]
theorem shp_le {c : Cfg} (h : c.Small) (oc : Int) : (shp c oc).1.length ≤ 17592186044416 ∧ (shp c oc).2.1.length ≤ 17592186044416 ∧ (shp c oc).2.2.1.length ≤ 17592186044416 ∧ (shp c oc).2.2.2.length ≤ 17592186044416 := by
  have k1 := idx_le (c.pS oc) c.secs.length
  have k2 := idx_le (c.pP oc) c.secs.length
  have k3 := idx_le (c.pC oc) c.crs.length
  have k4 := idx_le (c.pG oc) c.sigs.length
  have k5 := h.s
  have k6 := h.g
  have k7 := h.r
  unfold shp
  split
  · exact ⟨by show (idx _ _).length ≤ _; omega, by show (idx _ _).length ≤ _; omega, by show (idx _ _).length ≤ _; omega, by show (idx _ _).length ≤ _; omega⟩
  · simp
set_option maxHeartbeats 2000000 in
theorem rview_spec (x : RImg) (g : Cfg) (now : Int) (w : World) (S : BSet) (hS : (sepL []).sat S w) (hx : x.Seen g w S) (hw : now ≤ 9223372036854775807) (hs : g.Small) :
    Tri Try.prog 21 #[ptr x.b 0, i64 now] w S fun u A => ∃ a b d e : Value, u = .agg #[a, b, d, e] ∧ A = [.own 44 3 (a) (x.occ g now g.secs.length).length ((x.occ g now g.secs.length).flatMap lkC), .own 44 3 (b) (x.pos g now g.secs.length).length ((x.pos g now g.secs.length).flatMap lkC), .own 44 3 (d) (x.shut g now g.crs.length).length ((x.shut g now g.crs.length).flatMap lkC), .own 44 3 (e) (x.lamp g now g.sigs.length).length ((x.lamp g now g.sigs.length).flatMap lkC)] := by
  refine Tri.enter (l := [ptr x.b 0, i64 now]) Try.func21 rfl Try.ntmps21 rfl [(0, ptr x.b 0), (1, i64 now)] (subA rfl) hS ?_
  have hsm := hs
  have hB := hx.blk
  have hsec := hx.c.secs
  have hsig := hx.c.sigs
  have hcrs := hx.c.crs
  obtain ⟨hnS, hnG, hnC⟩ := hs
  repeat first
    | refine WC.seq ?_ | refine WC.region ?_
  try refine WL.wanted rfl rfl rfl ?_
  (apply WL.alloc; exact rfl; exact ZvC.eq; exact rfl; intro r)
  repeat first
    | refine WC.seq ?_ | refine WC.region ?_ | refine WL.nil ?_ | refine WE.next ?_
  try refine WL.wanted rfl rfl rfl ?_
  (apply WL.alloc; exact rfl; exact ZvC.eq; exact rfl; intro q)
  repeat first
    | (apply WL.q; exact rfl; exact rfl; exact rfl; (first | (apply EvW.move; exact rfl) | (apply EvW.nilPtr; exact rfl) | (apply EvW.fieldAddr0; exact rfl; exact FldC.eq) | (apply EvW.ldSeen; exact rfl; exact ScalC.eq; assumption; (first | exact rfl | assumption)) | (apply EvW.lenRow; exact rfl; exact UndC.eq; assumption)))
    | refine WC.seq ?_ | refine WC.region ?_ | refine WL.nil ?_ | refine WE.next ?_ | refine WC.block ?_
  refine WC.ownNil 44 3 ?_
  refine WC.ownNil 44 3 ?_
  refine WC.ownNil 44 3 ?_
  refine WC.ownNil 44 3 ?_
  refine WC.loopK (σ := Nat × Value × Value) [0, 1, 4, 5, 22, 23] (fun s => [(24, i64 s.1)]) (fun s => [.own 44 3 (s.2.1) (x.occ g now s.1).length ((x.occ g now s.1).flatMap lkC), .own 44 3 (s.2.2) (x.pos g now s.1).length ((x.pos g now s.1).flatMap lkC), .own 44 3 (.slice none 0 0) 0 [], .own 44 3 (.slice none 0 0) 0 [], .blk q #[s.2.1, s.2.2, (.slice none 0 0), (.slice none 0 0)] 41, .blk r #[(.slice none 0 0), (.slice none 0 0), (.slice none 0 0), (.slice none 0 0)] 41]) (fun s => s.1 ≤ g.secs.length) (fun s => g.secs.length - s.1) (0, .slice none 0 0, .slice none 0 0) (by (focus ((repeat (first | exact Pick.nil | (apply Pick.cons; exact rfl))); done))) (by (focus ((repeat (first | exact trivial | (refine ⟨rfl, ?_⟩))); done))) (fun _ h => h.keep (by repeat constructor)) (Nat.zero_le _) (fun s hs => ?_)
  obtain ⟨i, a, b⟩ := s
  simp only [List.cons_append, List.nil_append] at hs ⊢
  by_cases hlt : (i : Int) < g.secs.length
  · skip
    have hl_occ := x.occ_len g now i
    have e_occ : x.occ g now (i + 1) = x.occ g now i ++ [x.lk g now (g.secs.getD i default).oc i 1 (·.1) Q4.la] := range_map _ i
    have hl_pos := x.pos_len g now i
    have e_pos : x.pos g now (i + 1) = x.pos g now i ++ [x.lk g now (g.secs.getD i default).oc i 0 (·.2.1) Q4.lb] := range_map _ i
    repeat first
      | (apply WL.q; exact rfl; exact rfl; exact rfl; (first | (apply EvW.move; exact rfl) | (apply EvW.cmpT; exact rfl; exact rfl; exact rfl; omega) | (apply EvW.idxRow; exact rfl; exact rfl; exact UndC.eq; exact SzC.eq; assumption; omega; omega)))
      | refine WC.seq ?_ | refine WC.region ?_ | refine WL.nil ?_ | refine WE.next ?_ | refine WC.block ?_ | refine WC.skip ?_ | refine WC.condT rfl ?_
    (apply WL.q; exact rfl; exact rfl; exact rfl; (apply EvW.ldElem (xs := g.secs) (z := (default : Sec)) (f := secC); exact rfl; exact AggC.eq; exact SzC.eq; exact rfl; exact fun _ => rfl; assumption; omega))
    try refine WL.wanted rfl rfl rfl ?_
    (apply WL.alloc; exact rfl; exact ZvC.eq; exact rfl; intro z)
    rw [show ((i : Nat) : Int).toNat = i from rfl]
    generalize g.secs.getD i default = s at e_occ e_pos
    have hle := shp_le hsm s.oc
    obtain ⟨L_occ, hL_occ⟩ : ∃ L, x.lk g now s.oc i 1 (·.1) Q4.la = L := ⟨_, rfl⟩
    rw [hL_occ] at e_occ
    unfold RImg.lk at hL_occ
    obtain ⟨L_pos, hL_pos⟩ : ∃ L, x.lk g now s.oc i 0 (·.2.1) Q4.lb = L := ⟨_, rfl⟩
    rw [hL_pos] at e_pos
    unfold RImg.lk at hL_pos
    repeat first
      | (apply WL.q; exact rfl; exact rfl; exact rfl; (first | (apply EvW.move; exact rfl) | (apply EvW.assign; exact rfl) | (apply EvW.fieldAddr0; exact rfl; exact FldC.eq) | (apply EvW.load; exact rfl; exact ScalC.eq; (focus ((repeat constructor); done)); exact rfl)))
      | refine WC.seq ?_ | refine WC.region ?_ | refine WL.nil ?_ | refine WE.next ?_ | (apply WL.store; exact rfl; exact rfl; (first | assumption | exact rfl); exact SzC.eq; (first | assumption | exact rfl); (focus ((repeat constructor); done)))
    try refine WL.wanted rfl rfl rfl ?_
    apply WL.callA ([])
    · exact rfl
    · exact rfl
    · exact fun w => Try.call51 _ w
    · (focus ((repeat constructor); done))
    · exact fun w1 S1 hS1 hs1 ho1 => said_spec x g s.oc w1 S1 hS1 (hx.down hs1)
    rintro _ _ ⟨a1, b1, d1, e1, rfl, rfl⟩
    first | refine WL.app4 ?_ | refine WL.app3 ?_ | refine WL.app2 ?_ | refine WL.app1 ?_ | refine WL.app0 ?_ | skip
    repeat first
      | (apply WL.q; exact rfl; exact rfl; exact rfl; (first | (apply EvW.move; exact rfl) | (apply EvW.extract; exact rfl; exact rfl)))
    try refine WL.wanted rfl rfl rfl ?_
    (apply WL.alloc; exact rfl; exact ZvC.eq; exact rfl; intro z8)
    try refine WL.wanted rfl rfl rfl ?_
    (apply WL.alloc; exact rfl; exact ZvC.eq; exact rfl; intro z9)
    have hsd := hx.sd s.oc
    have o1 := hsd.a.row_one
    have o2 := hsd.b.row_one
    have o3 := hsd.y.row_one
    have o4 := hsd.d.row_one
    have hq1 := hsd.a
    have hq2 := hsd.b
    have hq3 := hsd.y
    have hq4 := hsd.d
    generalize x.sdOf s.oc = sd at hsd o1 o2 o3 o4 hq1 hq2 hq3 hq4 hL_occ hL_pos
    (first | refine WL.slOwn (v := a1) (by repeat constructor) ?_ | refine WC.slOwn (v := a1) (by repeat constructor) ?_)
    intro hc_a1 ho_a1
    (first | refine WL.slOwn (v := b1) (by repeat constructor) ?_ | refine WC.slOwn (v := b1) (by repeat constructor) ?_)
    intro hc_b1 ho_b1
    (first | refine WL.slOwn (v := d1) (by repeat constructor) ?_ | refine WC.slOwn (v := d1) (by repeat constructor) ?_)
    intro hc_d1 ho_d1
    (first | refine WL.slOwn (v := e1) (by repeat constructor) ?_ | refine WC.slOwn (v := e1) (by repeat constructor) ?_)
    intro hc_e1 ho_e1
    have hall1 : ([sd.a, sd.b, sd.y, sd.d] : List Value).all (·.oneCell') = true := by simp [o1, o2, o3, o4]
    have hall2 : ([a1, b1, d1, e1] : List Value).all (·.oneCell') = true := by
      simp at ho_a1 ho_b1 ho_d1 ho_e1
      simp [ho_a1, ho_b1, ho_d1, ho_e1]
    clear hc_a1 hc_b1 hc_d1 hc_e1 ho_a1 ho_b1 ho_d1 ho_e1
    repeat first
      | refine WC.seq ?_ | refine WL.nil ?_ | refine WE.next ?_ | (apply WL.store; exact rfl; exact rfl; (first | assumption | exact rfl); exact SzC.eq; (first | assumption | exact rfl); (focus ((repeat constructor); done)))
    repeat refine WC.seq ?_
    refine WC.keep (xs := [.blk q #[a, b, (.slice none 0 0), (.slice none 0 0)] 41, .own 44 3 (a) (x.occ g now i).length ((x.occ g now i).flatMap lkC), .own 44 3 (b) (x.pos g now i).length ((x.pos g now i).flatMap lkC), .own 44 3 (.slice none 0 0) 0 [], .own 44 3 (.slice none 0 0) 0 [], .blk r #[(.slice none 0 0), (.slice none 0 0), (.slice none 0 0), (.slice none 0 0)] 41, .blk z #[i64 s.k, i64 s.oc, i64 s.l] 47, .blk z8 #[sd.a, sd.b, sd.y, sd.d] 54, .blk z9 #[a1, b1, d1, e1] 51, .own 3 1 (a1) (((shp g s.oc).1)).length ((((shp g s.oc).1)).map i64), .own 3 1 (b1) (((shp g s.oc).2.1)).length ((((shp g s.oc).2.1)).map i64), .own 3 1 (d1) (((shp g s.oc).2.2.1)).length ((((shp g s.oc).2.2.1)).map i64), .own 3 1 (e1) (((shp g s.oc).2.2.2)).length ((((shp g s.oc).2.2.2)).map i64)]) (by repeat constructor) ?_
    apply WC.par _ (fun c : Ch => [.blk q #[a, b, (.slice none 0 0), (.slice none 0 0)] 41, .blk q #[(c 14).2, b, (.slice none 0 0), (.slice none 0 0)] 41, .own 44 3 (a) (x.occ g now i).length ((x.occ g now i).flatMap lkC), .blk (c 13).1 #[i64 L_occ.1, i64 L_occ.2.1, .bool L_occ.2.2] 44, .own 44 3 ((c 14).2) ((x.occ g now i).length + 1) ((x.occ g now i).flatMap lkC ++ [i64 L_occ.1, i64 L_occ.2.1, .bool L_occ.2.2]), .own 44 3 (b) (x.pos g now i).length ((x.pos g now i).flatMap lkC), .own 44 3 (.slice none 0 0) 0 [], .own 44 3 (.slice none 0 0) 0 [], .blk r #[(.slice none 0 0), (.slice none 0 0), (.slice none 0 0), (.slice none 0 0)] 41, .blk z #[i64 s.k, i64 s.oc, i64 s.l] 47, .blk z8 #[sd.a, sd.b, sd.y, sd.d] 54, .blk z9 #[a1, b1, d1, e1] 51, .own 3 1 (a1) (((shp g s.oc).1)).length ((((shp g s.oc).1)).map i64), .own 3 1 (b1) (((shp g s.oc).2.1)).length ((((shp g s.oc).2.1)).map i64), .own 3 1 (d1) (((shp g s.oc).2.2.1)).length ((((shp g s.oc).2.2.1)).map i64), .own 3 1 (e1) (((shp g s.oc).2.2.2)).length ((((shp g s.oc).2.2.2)).map i64)]) [none, some 16, none, some 13, some 14, none, none, none, none, none, none, none, none, none, none, none] [some 16, none, some 14, some 14, none, none, none, none, none, none, none, none, none, none, none, none] [(13, fun x => .slice (some ⟨x.1, 0, none⟩) 1 1), (14, fun x => x.2)] Try.mixed
    · (focus ((repeat (first | exact Restr.nil | (apply Restr.keep; exact rfl; exact rfl) | (apply Restr.drop; exact rfl))); done))
    · intro c; exact (by repeat constructor)
    · exact rfl
    · decide +kernel
    · decide +kernel
    · intro c
      (apply Par.quiet _ [true, false, true, false, false, true, true, true, true, true, true, true, true, true, true, true]; exact rfl; decide +kernel; exact rfl; intro R; refine ⟨_, (by repeat constructor), ?_⟩;
           (first | (apply EvW.fieldAddr0; exact rfl; exact FldC.eq)))
      (apply Par.quiet _ [true, false, true, false, false, true, true, true, true, true, true, true, true, true, true, true]; exact rfl; decide +kernel; exact rfl; intro R; refine ⟨_, (by repeat constructor), ?_⟩;
           (first | (apply EvW.load; exact rfl; exact ScalC.eq; (focus ((repeat constructor); done)); exact rfl)))
      (apply Par.quiet _ [true, false, true, false, false, true, true, true, true, true, true, true, true, true, true, true]; exact rfl; decide +kernel; exact rfl; intro R; refine ⟨_, (by repeat constructor), ?_⟩;
           (first | (apply EvW.move; exact rfl)))
      (apply Par.quiet _ [true, false, true, false, false, true, true, true, true, true, true, true, true, true, true, true]; exact rfl; decide +kernel; exact rfl; intro R; refine ⟨_, (by repeat constructor), ?_⟩;
           (first | (apply EvW.move; exact rfl)))
      (apply Par.quiet _ [true, false, true, false, false, true, true, true, true, true, true, true, true, true, true, true]; exact rfl; decide +kernel; exact rfl; intro R; refine ⟨_, (by repeat constructor), ?_⟩;
           (first | (apply EvW.fieldAddr0; exact rfl; exact FldC.eq)))
      (apply Par.quiet _ [true, false, true, false, false, true, true, true, true, true, true, true, true, true, true, true]; exact rfl; decide +kernel; exact rfl; intro R; refine ⟨_, (by repeat constructor), ?_⟩;
           (first | (apply EvW.load; exact rfl; exact ScalC.eq; (focus ((repeat constructor); done)); exact rfl)))
      (apply Par.quiet _ [true, false, true, false, false, true, true, true, true, true, true, true, true, true, true, true]; exact rfl; decide +kernel; exact rfl; intro R; refine ⟨_, (by repeat constructor), ?_⟩;
           (first | (apply EvW.fieldAddr0; exact rfl; exact FldC.eq)))
      (apply Par.quiet _ [true, false, true, false, false, true, true, true, true, true, true, true, true, true, true, true]; exact rfl; decide +kernel; exact rfl; intro R; refine ⟨_, (by repeat constructor), ?_⟩;
           (first | (apply EvW.load; exact rfl; exact ScalC.eq; (focus ((repeat constructor); done)); exact rfl)))
      (apply Par.quiet _ [true, false, true, false, false, true, true, true, true, true, true, true, true, true, true, true]; exact rfl; decide +kernel; exact rfl; intro R; refine ⟨_, (by repeat constructor), ?_⟩;
           (first | (apply EvW.move; exact rfl)))
      apply Par.quiet _ [true, false, true, false, false, true, true, true, true, true, true, true, true, true, true, true]
      · exact rfl
      · decide +kernel
      · exact rfl
      · intro R
        refine ⟨_, (by repeat constructor), ?_⟩
        apply EvW.callK ([])
        · exact rfl
        · exact fun w => Try.call53 _ w
        · (focus ((repeat constructor); done))
        · exact fun w1 S1 hS1 hs1 ho1 => at_spec (shp g s.oc).1 a1 i w1 S1 hS1 (ho1 (.own 3 1 (a1) (((shp g s.oc).1)).length ((((shp g s.oc).1)).map i64)) _ (by repeat constructor)).own hle.1
        · exact fun _ _ h => h
      (apply Par.quiet _ [true, false, true, false, false, true, true, true, true, true, true, true, true, true, true, true]; exact rfl; decide +kernel; exact rfl; intro R; refine ⟨_, (by repeat constructor), ?_⟩;
           (first | (apply EvW.fieldAddr0; exact rfl; exact FldC.eq)))
      (apply Par.quiet _ [true, false, true, false, false, true, true, true, true, true, true, true, true, true, true, true]; exact rfl; decide +kernel; exact rfl; intro R; refine ⟨_, (by repeat constructor), ?_⟩;
           (first | (apply EvW.load; exact rfl; exact ScalC.eq; (focus ((repeat constructor); done)); exact rfl)))
      apply Par.quiet _ [true, false, true, false, false, true, true, true, true, true, true, true, true, true, true, true]
      · exact rfl
      · decide +kernel
      · exact rfl
      · intro R
        refine ⟨_, (by repeat constructor), ?_⟩
        apply EvW.callK ([])
        · exact rfl
        · exact fun w => Try.call52 _ w
        · (focus ((repeat constructor); done))
        · exact fun w1 S1 hS1 hs1 ho1 => rlook_spec x g now s.oc (atF (shp g s.oc).1 i) 1 sd.a sd.la L_occ w1 S1 hS1 (hx.down hs1) hw (hs1 _ hq1) hL_occ
        · exact fun _ _ h => h
      (apply Par.new _ [false, false, false, false, false, false, false, false, false, false, false, false, false, false, false, false] [false, false, false, true, false, false, false, false, false, false, false, false, false, false, false, false] [true, false, true, false, false, true, true, true, true, true, true, true, true, true, true, true]; exact rfl; exact rfl; decide +kernel; intro R; refine ⟨_, _, _, (by repeat constructor), (by repeat constructor), (fun x => (by repeat constructor)), ?_⟩; (apply NewW.buildSlice; exact UndC.eq; exact SzC.eq; exact ZvC.eq; exact rfl; exact rfl; exact rfl; (focus ((repeat (first | exact Flat.nil | (apply Flat.one; (first | exact rfl | assumption)) | (apply Flat.cons; exact rfl; exact rfl))); done)); exact rfl; exact rfl; exact fun _ => rfl))
      apply Par.new _ [false, false, true, true, false, false, false, false, false, false, false, false, false, false, false, false] [false, false, false, false, true, false, false, false, false, false, false, false, false, false, false, false] [true, false, false, false, false, true, true, true, true, true, true, true, true, true, true, true]
      · exact rfl
      · exact rfl
      · decide +kernel
      · intro R
        refine ⟨_, _, _, (by repeat constructor), (by repeat constructor), (fun x => (by repeat constructor)), ?_⟩
        (apply NewW.append; exact rfl; exact rfl; exact UndC.eq; exact SzC.eq; exact ByC.eq; exact ZvC.eq; exact rfl; (first | exact notInt_sl UndC.eq | exact notInt_st UndC.eq); exact rfl; (focus ((repeat constructor); done)))
        · exact adds_blk (by repeat constructor) rfl rfl
        · (rw [hl_occ]; omega)
        · exact fun _ _ h => TakeT.st (by (focus ((repeat (first | exact TakeT.tail | apply TakeT.cons | exact Take.head | apply Take.tail | apply TakeT.drop)); done))) h
      (apply Par.quiet _ [true, false, false, false, true, true, true, true, true, true, true, true, true, true, true, true]; exact rfl; decide +kernel; exact rfl; intro R; refine ⟨_, (by repeat constructor), ?_⟩;
           (first | (apply EvW.fieldAddr0; exact rfl; exact FldC.eq)))
      apply Par.eff _ [true, false, false, false, false, false, false, false, false, false, false, false, false, false, false, false] [false, true, false, false, false, false, false, false, false, false, false, false, false, false, false, false] [false, false, false, false, true, true, true, true, true, true, true, true, true, true, true, true]
      · exact rfl
      · exact rfl
      · decide +kernel
      · intro R
        refine ⟨_, _, _, (by repeat constructor), (by repeat constructor), (by repeat constructor), ?_⟩
        (apply EffW.storeSl; exact rfl; exact rfl; (focus ((repeat constructor); done)); exact SzC.eq; (focus ((repeat constructor); done)))
      exact Par.nil
    · repeat (first | exact AllN.nil | (apply AllN.cons; (intro c x; (repeat (first | exact IndA.nil | (apply IndA.skip; decide +kernel) | apply IndA.same))))) 
    · repeat (first | exact AllN.nil | (apply AllN.cons; (intro c x; (repeat (first | exact IndT.nil | (apply IndT.skip; decide +kernel) | apply IndT.same))))) 
    · exact fun _ => rfl
    intro c
    refine ⟨_, (by repeat constructor), ?_⟩
    apply WE.writ
    · (focus ((repeat (first | exact Writ.nil | apply Writ.some | apply Writ.none)); done))
    generalize (c 13).1 = b13
    generalize (c 14).2 = a2
    rw [looks_snoc, looks_len, ← e_occ]
    repeat first
      | refine WE.next ?_
    repeat refine WC.seq ?_
    refine WC.keep (xs := [.blk q #[a2, b, (.slice none 0 0), (.slice none 0 0)] 41, .own 44 3 (b) (x.pos g now i).length ((x.pos g now i).flatMap lkC), .own 44 3 (a2) (x.occ g now (i + 1)).length ((x.occ g now (i + 1)).flatMap lkC), .own 44 3 (.slice none 0 0) 0 [], .own 44 3 (.slice none 0 0) 0 [], .blk r #[(.slice none 0 0), (.slice none 0 0), (.slice none 0 0), (.slice none 0 0)] 41, .blk z #[i64 s.k, i64 s.oc, i64 s.l] 47, .blk z8 #[sd.a, sd.b, sd.y, sd.d] 54, .blk z9 #[a1, b1, d1, e1] 51, .own 3 1 (a1) (((shp g s.oc).1)).length ((((shp g s.oc).1)).map i64), .own 3 1 (b1) (((shp g s.oc).2.1)).length ((((shp g s.oc).2.1)).map i64), .own 3 1 (d1) (((shp g s.oc).2.2.1)).length ((((shp g s.oc).2.2.1)).map i64), .own 3 1 (e1) (((shp g s.oc).2.2.2)).length ((((shp g s.oc).2.2.2)).map i64)]) (by repeat constructor) ?_
    apply WC.par _ (fun c : Ch => [.blk q #[a2, b, (.slice none 0 0), (.slice none 0 0)] 41, .blk q #[a2, (c 14).2, (.slice none 0 0), (.slice none 0 0)] 41, .own 44 3 (b) (x.pos g now i).length ((x.pos g now i).flatMap lkC), .blk (c 13).1 #[i64 L_pos.1, i64 L_pos.2.1, .bool L_pos.2.2] 44, .own 44 3 ((c 14).2) ((x.pos g now i).length + 1) ((x.pos g now i).flatMap lkC ++ [i64 L_pos.1, i64 L_pos.2.1, .bool L_pos.2.2]), .own 44 3 (a2) (x.occ g now (i + 1)).length ((x.occ g now (i + 1)).flatMap lkC), .own 44 3 (.slice none 0 0) 0 [], .own 44 3 (.slice none 0 0) 0 [], .blk r #[(.slice none 0 0), (.slice none 0 0), (.slice none 0 0), (.slice none 0 0)] 41, .blk z #[i64 s.k, i64 s.oc, i64 s.l] 47, .blk z8 #[sd.a, sd.b, sd.y, sd.d] 54, .blk z9 #[a1, b1, d1, e1] 51, .own 3 1 (a1) (((shp g s.oc).1)).length ((((shp g s.oc).1)).map i64), .own 3 1 (b1) (((shp g s.oc).2.1)).length ((((shp g s.oc).2.1)).map i64), .own 3 1 (d1) (((shp g s.oc).2.2.1)).length ((((shp g s.oc).2.2.1)).map i64), .own 3 1 (e1) (((shp g s.oc).2.2.2)).length ((((shp g s.oc).2.2.2)).map i64)]) [none, some 16, none, some 13, some 14, none, none, none, none, none, none, none, none, none, none, none] [some 16, none, some 14, some 14, none, none, none, none, none, none, none, none, none, none, none, none] [(13, fun x => .slice (some ⟨x.1, 0, none⟩) 1 1), (14, fun x => x.2)] Try.mixed
    · (focus ((repeat (first | exact Restr.nil | (apply Restr.keep; exact rfl; exact rfl) | (apply Restr.drop; exact rfl))); done))
    · intro c; exact (by repeat constructor)
    · exact rfl
    · decide +kernel
    · decide +kernel
    · intro c
      (apply Par.quiet _ [true, false, true, false, false, true, true, true, true, true, true, true, true, true, true, true]; exact rfl; decide +kernel; exact rfl; intro R; refine ⟨_, (by repeat constructor), ?_⟩;
           (first | (apply EvW.fieldAddr0; exact rfl; exact FldC.eq)))
      (apply Par.quiet _ [true, false, true, false, false, true, true, true, true, true, true, true, true, true, true, true]; exact rfl; decide +kernel; exact rfl; intro R; refine ⟨_, (by repeat constructor), ?_⟩;
           (first | (apply EvW.load; exact rfl; exact ScalC.eq; (focus ((repeat constructor); done)); exact rfl)))
      (apply Par.quiet _ [true, false, true, false, false, true, true, true, true, true, true, true, true, true, true, true]; exact rfl; decide +kernel; exact rfl; intro R; refine ⟨_, (by repeat constructor), ?_⟩;
           (first | (apply EvW.move; exact rfl)))
      (apply Par.quiet _ [true, false, true, false, false, true, true, true, true, true, true, true, true, true, true, true]; exact rfl; decide +kernel; exact rfl; intro R; refine ⟨_, (by repeat constructor), ?_⟩;
           (first | (apply EvW.move; exact rfl)))
      (apply Par.quiet _ [true, false, true, false, false, true, true, true, true, true, true, true, true, true, true, true]; exact rfl; decide +kernel; exact rfl; intro R; refine ⟨_, (by repeat constructor), ?_⟩;
           (first | (apply EvW.fieldAddr0; exact rfl; exact FldC.eq)))
      (apply Par.quiet _ [true, false, true, false, false, true, true, true, true, true, true, true, true, true, true, true]; exact rfl; decide +kernel; exact rfl; intro R; refine ⟨_, (by repeat constructor), ?_⟩;
           (first | (apply EvW.load; exact rfl; exact ScalC.eq; (focus ((repeat constructor); done)); exact rfl)))
      (apply Par.quiet _ [true, false, true, false, false, true, true, true, true, true, true, true, true, true, true, true]; exact rfl; decide +kernel; exact rfl; intro R; refine ⟨_, (by repeat constructor), ?_⟩;
           (first | (apply EvW.fieldAddr0; exact rfl; exact FldC.eq)))
      (apply Par.quiet _ [true, false, true, false, false, true, true, true, true, true, true, true, true, true, true, true]; exact rfl; decide +kernel; exact rfl; intro R; refine ⟨_, (by repeat constructor), ?_⟩;
           (first | (apply EvW.load; exact rfl; exact ScalC.eq; (focus ((repeat constructor); done)); exact rfl)))
      (apply Par.quiet _ [true, false, true, false, false, true, true, true, true, true, true, true, true, true, true, true]; exact rfl; decide +kernel; exact rfl; intro R; refine ⟨_, (by repeat constructor), ?_⟩;
           (first | (apply EvW.move; exact rfl)))
      apply Par.quiet _ [true, false, true, false, false, true, true, true, true, true, true, true, true, true, true, true]
      · exact rfl
      · decide +kernel
      · exact rfl
      · intro R
        refine ⟨_, (by repeat constructor), ?_⟩
        apply EvW.callK ([])
        · exact rfl
        · exact fun w => Try.call53 _ w
        · (focus ((repeat constructor); done))
        · exact fun w1 S1 hS1 hs1 ho1 => at_spec (shp g s.oc).2.1 b1 i w1 S1 hS1 (ho1 (.own 3 1 (b1) (((shp g s.oc).2.1)).length ((((shp g s.oc).2.1)).map i64)) _ (by repeat constructor)).own hle.2.1
        · exact fun _ _ h => h
      (apply Par.quiet _ [true, false, true, false, false, true, true, true, true, true, true, true, true, true, true, true]; exact rfl; decide +kernel; exact rfl; intro R; refine ⟨_, (by repeat constructor), ?_⟩;
           (first | (apply EvW.fieldAddr0; exact rfl; exact FldC.eq)))
      (apply Par.quiet _ [true, false, true, false, false, true, true, true, true, true, true, true, true, true, true, true]; exact rfl; decide +kernel; exact rfl; intro R; refine ⟨_, (by repeat constructor), ?_⟩;
           (first | (apply EvW.load; exact rfl; exact ScalC.eq; (focus ((repeat constructor); done)); exact rfl)))
      apply Par.quiet _ [true, false, true, false, false, true, true, true, true, true, true, true, true, true, true, true]
      · exact rfl
      · decide +kernel
      · exact rfl
      · intro R
        refine ⟨_, (by repeat constructor), ?_⟩
        apply EvW.callK ([])
        · exact rfl
        · exact fun w => Try.call52 _ w
        · (focus ((repeat constructor); done))
        · exact fun w1 S1 hS1 hs1 ho1 => rlook_spec x g now s.oc (atF (shp g s.oc).2.1 i) 0 sd.b sd.lb L_pos w1 S1 hS1 (hx.down hs1) hw (hs1 _ hq2) hL_pos
        · exact fun _ _ h => h
      (apply Par.new _ [false, false, false, false, false, false, false, false, false, false, false, false, false, false, false, false] [false, false, false, true, false, false, false, false, false, false, false, false, false, false, false, false] [true, false, true, false, false, true, true, true, true, true, true, true, true, true, true, true]; exact rfl; exact rfl; decide +kernel; intro R; refine ⟨_, _, _, (by repeat constructor), (by repeat constructor), (fun x => (by repeat constructor)), ?_⟩; (apply NewW.buildSlice; exact UndC.eq; exact SzC.eq; exact ZvC.eq; exact rfl; exact rfl; exact rfl; (focus ((repeat (first | exact Flat.nil | (apply Flat.one; (first | exact rfl | assumption)) | (apply Flat.cons; exact rfl; exact rfl))); done)); exact rfl; exact rfl; exact fun _ => rfl))
      apply Par.new _ [false, false, true, true, false, false, false, false, false, false, false, false, false, false, false, false] [false, false, false, false, true, false, false, false, false, false, false, false, false, false, false, false] [true, false, false, false, false, true, true, true, true, true, true, true, true, true, true, true]
      · exact rfl
      · exact rfl
      · decide +kernel
      · intro R
        refine ⟨_, _, _, (by repeat constructor), (by repeat constructor), (fun x => (by repeat constructor)), ?_⟩
        (apply NewW.append; exact rfl; exact rfl; exact UndC.eq; exact SzC.eq; exact ByC.eq; exact ZvC.eq; exact rfl; (first | exact notInt_sl UndC.eq | exact notInt_st UndC.eq); exact rfl; (focus ((repeat constructor); done)))
        · exact adds_blk (by repeat constructor) rfl rfl
        · (rw [hl_pos]; omega)
        · exact fun _ _ h => TakeT.st (by (focus ((repeat (first | exact TakeT.tail | apply TakeT.cons | exact Take.head | apply Take.tail | apply TakeT.drop)); done))) h
      (apply Par.quiet _ [true, false, false, false, true, true, true, true, true, true, true, true, true, true, true, true]; exact rfl; decide +kernel; exact rfl; intro R; refine ⟨_, (by repeat constructor), ?_⟩;
           (first | (apply EvW.fieldAddr0; exact rfl; exact FldC.eq)))
      apply Par.eff _ [true, false, false, false, false, false, false, false, false, false, false, false, false, false, false, false] [false, true, false, false, false, false, false, false, false, false, false, false, false, false, false, false] [false, false, false, false, true, true, true, true, true, true, true, true, true, true, true, true]
      · exact rfl
      · exact rfl
      · decide +kernel
      · intro R
        refine ⟨_, _, _, (by repeat constructor), (by repeat constructor), (by repeat constructor), ?_⟩
        (apply EffW.storeSl; exact rfl; exact rfl; (focus ((repeat constructor); done)); exact SzC.eq; (focus ((repeat constructor); done)))
      exact Par.nil
    · repeat (first | exact AllN.nil | (apply AllN.cons; (intro c x; (repeat (first | exact IndA.nil | (apply IndA.skip; decide +kernel) | apply IndA.same))))) 
    · repeat (first | exact AllN.nil | (apply AllN.cons; (intro c x; (repeat (first | exact IndT.nil | (apply IndT.skip; decide +kernel) | apply IndT.same))))) 
    · exact fun _ => rfl
    intro c
    refine ⟨_, (by repeat constructor), ?_⟩
    apply WE.writ
    · (focus ((repeat (first | exact Writ.nil | apply Writ.some | apply Writ.none)); done))
    generalize (c 13).1 = b13
    generalize (c 14).2 = b2
    rw [looks_snoc, looks_len, ← e_pos]
    repeat first
      | (apply WL.q; exact rfl; exact rfl; exact rfl; (first | (apply EvW.move; exact rfl) | (apply EvW.arN; exact rfl; exact rfl; exact rfl; refine i64_in ?_ ?_ <;> omega)))
      | refine WC.region ?_ | refine WL.nil ?_ | refine WE.next ?_ | refine WE.out ?_
    exact WE.again (s := (i, a, b)) ((i + 1, a2, b2)) (by simp only []; omega) (by (focus ((repeat (first | exact trivial | (refine ⟨rfl, ?_⟩))); done))) (fun _ h => (by (try simp only []); exact h.keep (by repeat constructor))) (by (try simp only []); omega)
  obtain rfl : i = g.secs.length := by omega
  repeat first
    | (apply WL.q; exact rfl; exact rfl; exact rfl; (first | (apply EvW.move; exact rfl) | (apply EvW.nilPtr; exact rfl) | (apply EvW.fieldAddr0; exact rfl; exact FldC.eq) | (apply EvW.ldSeen; exact rfl; exact ScalC.eq; assumption; (first | exact rfl | assumption)) | (apply EvW.cmpF; exact rfl; exact rfl; exact rfl; omega) | (apply EvW.lenRow; exact rfl; exact UndC.eq; assumption)))
    | refine WC.seq ?_ | refine WC.region ?_ | refine WL.nil ?_ | refine WE.next ?_ | refine WC.block ?_ | refine WC.exit ?_ | refine WE.pass ?_ | refine WE.hit ?_ | refine WC.condF rfl ?_
  refine WC.loopK (σ := Nat × Value) [0, 1, 4, 5, 73, 74] (fun s => [(75, i64 s.1)]) (fun s => [.own 44 3 (a) (x.occ g now g.secs.length).length ((x.occ g now g.secs.length).flatMap lkC), .own 44 3 (b) (x.pos g now g.secs.length).length ((x.pos g now g.secs.length).flatMap lkC), .own 44 3 (s.2) (x.shut g now s.1).length ((x.shut g now s.1).flatMap lkC), .own 44 3 (.slice none 0 0) 0 [], .blk q #[a, b, s.2, (.slice none 0 0)] 41, .blk r #[(.slice none 0 0), (.slice none 0 0), (.slice none 0 0), (.slice none 0 0)] 41]) (fun s => s.1 ≤ g.crs.length) (fun s => g.crs.length - s.1) (0, .slice none 0 0) (by (focus ((repeat (first | exact Pick.nil | (apply Pick.cons; exact rfl))); done))) (by (focus ((repeat (first | exact trivial | (refine ⟨rfl, ?_⟩))); done))) (fun _ h => h.keep (by repeat constructor)) (Nat.zero_le _) (fun s hs => ?_)
  obtain ⟨i, d⟩ := s
  simp only [List.cons_append, List.nil_append] at hs ⊢
  by_cases hlt2 : (i : Int) < g.crs.length
  · skip
    have hl_shut := x.shut_len g now i
    have e_shut : x.shut g now (i + 1) = x.shut g now i ++ [x.lk g now (ocOf g (g.crs.getD i 0)) i 0 (·.2.2.1) Q4.ly] := range_map _ i
    repeat first
      | (apply WL.q; exact rfl; exact rfl; exact rfl; (first | (apply EvW.move; exact rfl) | (apply EvW.assign; exact rfl) | (apply EvW.cmpT; exact rfl; exact rfl; exact rfl; omega) | (apply EvW.idxRow; exact rfl; exact rfl; exact UndC.eq; exact SzC.eq; assumption; omega; omega) | (apply EvW.ldInt; exact rfl; exact ScalC.eq; assumption; omega)))
      | refine WC.seq ?_ | refine WC.region ?_ | refine WL.nil ?_ | refine WE.next ?_ | refine WC.block ?_ | refine WC.skip ?_ | refine WC.condT rfl ?_
    rw [show ((i : Nat) : Int).toNat = i from rfl]
    generalize g.crs.getD i 0 = s at e_shut
    try refine WL.wanted rfl rfl rfl ?_
    apply WL.callA ([])
    · exact rfl
    · exact rfl
    · exact fun w => Try.call54 _ w
    · (focus ((repeat constructor); done))
    · exact fun w1 S1 hS1 hs1 ho1 => oc_spec x g s w1 S1 hS1 (hx.down hs1)
    rintro _ _ ⟨rfl, rfl⟩
    first | refine WL.app4 ?_ | refine WL.app3 ?_ | refine WL.app2 ?_ | refine WL.app1 ?_ | refine WL.app0 ?_ | skip
    obtain ⟨oc, hoc⟩ : ∃ oc, ocOf g s = oc := ⟨_, rfl⟩
    rw [hoc] at e_shut ⊢
    have hle := shp_le hsm oc
    obtain ⟨L_shut, hL_shut⟩ : ∃ L, x.lk g now oc i 0 (·.2.2.1) Q4.ly = L := ⟨_, rfl⟩
    rw [hL_shut] at e_shut
    unfold RImg.lk at hL_shut
    skip
    try refine WL.wanted rfl rfl rfl ?_
    apply WL.callA ([])
    · exact rfl
    · exact rfl
    · exact fun w => Try.call51 _ w
    · (focus ((repeat constructor); done))
    · exact fun w1 S1 hS1 hs1 ho1 => said_spec x g oc w1 S1 hS1 (hx.down hs1)
    rintro _ _ ⟨a1, b1, d1, e1, rfl, rfl⟩
    first | refine WL.app4 ?_ | refine WL.app3 ?_ | refine WL.app2 ?_ | refine WL.app1 ?_ | refine WL.app0 ?_ | skip
    repeat first
      | (apply WL.q; exact rfl; exact rfl; exact rfl; (first | (apply EvW.move; exact rfl) | (apply EvW.extract; exact rfl; exact rfl)))
    try refine WL.wanted rfl rfl rfl ?_
    (apply WL.alloc; exact rfl; exact ZvC.eq; exact rfl; intro z8)
    try refine WL.wanted rfl rfl rfl ?_
    (apply WL.alloc; exact rfl; exact ZvC.eq; exact rfl; intro z9)
    have hsd := hx.sd oc
    have o1 := hsd.a.row_one
    have o2 := hsd.b.row_one
    have o3 := hsd.y.row_one
    have o4 := hsd.d.row_one
    have hq1 := hsd.a
    have hq2 := hsd.b
    have hq3 := hsd.y
    have hq4 := hsd.d
    generalize x.sdOf oc = sd at hsd o1 o2 o3 o4 hq1 hq2 hq3 hq4 hL_shut
    (first | refine WL.slOwn (v := a1) (by repeat constructor) ?_ | refine WC.slOwn (v := a1) (by repeat constructor) ?_)
    intro hc_a1 ho_a1
    (first | refine WL.slOwn (v := b1) (by repeat constructor) ?_ | refine WC.slOwn (v := b1) (by repeat constructor) ?_)
    intro hc_b1 ho_b1
    (first | refine WL.slOwn (v := d1) (by repeat constructor) ?_ | refine WC.slOwn (v := d1) (by repeat constructor) ?_)
    intro hc_d1 ho_d1
    (first | refine WL.slOwn (v := e1) (by repeat constructor) ?_ | refine WC.slOwn (v := e1) (by repeat constructor) ?_)
    intro hc_e1 ho_e1
    have hall1 : ([sd.a, sd.b, sd.y, sd.d] : List Value).all (·.oneCell') = true := by simp [o1, o2, o3, o4]
    have hall2 : ([a1, b1, d1, e1] : List Value).all (·.oneCell') = true := by
      simp at ho_a1 ho_b1 ho_d1 ho_e1
      simp [ho_a1, ho_b1, ho_d1, ho_e1]
    clear hc_a1 hc_b1 hc_d1 hc_e1 ho_a1 ho_b1 ho_d1 ho_e1
    repeat first
      | refine WL.nil ?_ | refine WE.next ?_ | (apply WL.store; exact rfl; exact rfl; (first | assumption | exact rfl); exact SzC.eq; (first | assumption | exact rfl); (focus ((repeat constructor); done)))
    repeat refine WC.seq ?_
    refine WC.keep (xs := [.blk q #[a, b, d, (.slice none 0 0)] 41, .own 44 3 (d) (x.shut g now i).length ((x.shut g now i).flatMap lkC), .own 44 3 (a) (x.occ g now g.secs.length).length ((x.occ g now g.secs.length).flatMap lkC), .own 44 3 (b) (x.pos g now g.secs.length).length ((x.pos g now g.secs.length).flatMap lkC), .own 44 3 (.slice none 0 0) 0 [], .blk r #[(.slice none 0 0), (.slice none 0 0), (.slice none 0 0), (.slice none 0 0)] 41, .blk z8 #[sd.a, sd.b, sd.y, sd.d] 54, .blk z9 #[a1, b1, d1, e1] 51, .own 3 1 (a1) (((shp g oc).1)).length ((((shp g oc).1)).map i64), .own 3 1 (b1) (((shp g oc).2.1)).length ((((shp g oc).2.1)).map i64), .own 3 1 (d1) (((shp g oc).2.2.1)).length ((((shp g oc).2.2.1)).map i64), .own 3 1 (e1) (((shp g oc).2.2.2)).length ((((shp g oc).2.2.2)).map i64)]) (by repeat constructor) ?_
    apply WC.par _ (fun c : Ch => [.blk q #[a, b, d, (.slice none 0 0)] 41, .blk q #[a, b, (c 15).2, (.slice none 0 0)] 41, .own 44 3 (d) (x.shut g now i).length ((x.shut g now i).flatMap lkC), .blk (c 14).1 #[i64 L_shut.1, i64 L_shut.2.1, .bool L_shut.2.2] 44, .own 44 3 ((c 15).2) ((x.shut g now i).length + 1) ((x.shut g now i).flatMap lkC ++ [i64 L_shut.1, i64 L_shut.2.1, .bool L_shut.2.2]), .own 44 3 (a) (x.occ g now g.secs.length).length ((x.occ g now g.secs.length).flatMap lkC), .own 44 3 (b) (x.pos g now g.secs.length).length ((x.pos g now g.secs.length).flatMap lkC), .own 44 3 (.slice none 0 0) 0 [], .blk r #[(.slice none 0 0), (.slice none 0 0), (.slice none 0 0), (.slice none 0 0)] 41, .blk z8 #[sd.a, sd.b, sd.y, sd.d] 54, .blk z9 #[a1, b1, d1, e1] 51, .own 3 1 (a1) (((shp g oc).1)).length ((((shp g oc).1)).map i64), .own 3 1 (b1) (((shp g oc).2.1)).length ((((shp g oc).2.1)).map i64), .own 3 1 (d1) (((shp g oc).2.2.1)).length ((((shp g oc).2.2.1)).map i64), .own 3 1 (e1) (((shp g oc).2.2.2)).length ((((shp g oc).2.2.2)).map i64)]) [none, some 17, none, some 14, some 15, none, none, none, none, none, none, none, none, none, none] [some 17, none, some 15, some 15, none, none, none, none, none, none, none, none, none, none, none] [(14, fun x => .slice (some ⟨x.1, 0, none⟩) 1 1), (15, fun x => x.2)] Try.mixed
    · (focus ((repeat (first | exact Restr.nil | (apply Restr.keep; exact rfl; exact rfl) | (apply Restr.drop; exact rfl))); done))
    · intro c; exact (by repeat constructor)
    · exact rfl
    · decide +kernel
    · decide +kernel
    · intro c
      (apply Par.quiet _ [true, false, true, false, false, true, true, true, true, true, true, true, true, true, true]; exact rfl; decide +kernel; exact rfl; intro R; refine ⟨_, (by repeat constructor), ?_⟩;
           (first | (apply EvW.fieldAddr0; exact rfl; exact FldC.eq)))
      (apply Par.quiet _ [true, false, true, false, false, true, true, true, true, true, true, true, true, true, true]; exact rfl; decide +kernel; exact rfl; intro R; refine ⟨_, (by repeat constructor), ?_⟩;
           (first | (apply EvW.load; exact rfl; exact ScalC.eq; (focus ((repeat constructor); done)); exact rfl)))
      (apply Par.quiet _ [true, false, true, false, false, true, true, true, true, true, true, true, true, true, true]; exact rfl; decide +kernel; exact rfl; intro R; refine ⟨_, (by repeat constructor), ?_⟩;
           (first | (apply EvW.move; exact rfl)))
      (apply Par.quiet _ [true, false, true, false, false, true, true, true, true, true, true, true, true, true, true]; exact rfl; decide +kernel; exact rfl; intro R; refine ⟨_, (by repeat constructor), ?_⟩;
           (first | (apply EvW.move; exact rfl)))
      (apply Par.quiet _ [true, false, true, false, false, true, true, true, true, true, true, true, true, true, true]; exact rfl; decide +kernel; exact rfl; intro R; refine ⟨_, (by repeat constructor), ?_⟩;
           (first | (apply EvW.move; exact rfl)))
      (apply Par.quiet _ [true, false, true, false, false, true, true, true, true, true, true, true, true, true, true]; exact rfl; decide +kernel; exact rfl; intro R; refine ⟨_, (by repeat constructor), ?_⟩;
           (first | (apply EvW.move; exact rfl)))
      apply Par.quiet _ [true, false, true, false, false, true, true, true, true, true, true, true, true, true, true]
      · exact rfl
      · decide +kernel
      · exact rfl
      · intro R
        refine ⟨_, (by repeat constructor), ?_⟩
        apply EvW.callK ([])
        · exact rfl
        · exact fun w => Try.call54 _ w
        · (focus ((repeat constructor); done))
        · exact fun w1 S1 hS1 hs1 ho1 => (by have h := oc_spec x g s w1 S1 hS1 (hx.down hs1); rw [hoc] at h; exact h)
        · exact fun _ _ h => h
      (apply Par.quiet _ [true, false, true, false, false, true, true, true, true, true, true, true, true, true, true]; exact rfl; decide +kernel; exact rfl; intro R; refine ⟨_, (by repeat constructor), ?_⟩;
           (first | (apply EvW.fieldAddr0; exact rfl; exact FldC.eq)))
      (apply Par.quiet _ [true, false, true, false, false, true, true, true, true, true, true, true, true, true, true]; exact rfl; decide +kernel; exact rfl; intro R; refine ⟨_, (by repeat constructor), ?_⟩;
           (first | (apply EvW.load; exact rfl; exact ScalC.eq; (focus ((repeat constructor); done)); exact rfl)))
      (apply Par.quiet _ [true, false, true, false, false, true, true, true, true, true, true, true, true, true, true]; exact rfl; decide +kernel; exact rfl; intro R; refine ⟨_, (by repeat constructor), ?_⟩;
           (first | (apply EvW.move; exact rfl)))
      apply Par.quiet _ [true, false, true, false, false, true, true, true, true, true, true, true, true, true, true]
      · exact rfl
      · decide +kernel
      · exact rfl
      · intro R
        refine ⟨_, (by repeat constructor), ?_⟩
        apply EvW.callK ([])
        · exact rfl
        · exact fun w => Try.call53 _ w
        · (focus ((repeat constructor); done))
        · exact fun w1 S1 hS1 hs1 ho1 => at_spec (shp g oc).2.2.1 d1 i w1 S1 hS1 (ho1 (.own 3 1 (d1) (((shp g oc).2.2.1)).length ((((shp g oc).2.2.1)).map i64)) _ (by repeat constructor)).own hle.2.2.1
        · exact fun _ _ h => h
      (apply Par.quiet _ [true, false, true, false, false, true, true, true, true, true, true, true, true, true, true]; exact rfl; decide +kernel; exact rfl; intro R; refine ⟨_, (by repeat constructor), ?_⟩;
           (first | (apply EvW.fieldAddr0; exact rfl; exact FldC.eq)))
      (apply Par.quiet _ [true, false, true, false, false, true, true, true, true, true, true, true, true, true, true]; exact rfl; decide +kernel; exact rfl; intro R; refine ⟨_, (by repeat constructor), ?_⟩;
           (first | (apply EvW.load; exact rfl; exact ScalC.eq; (focus ((repeat constructor); done)); exact rfl)))
      apply Par.quiet _ [true, false, true, false, false, true, true, true, true, true, true, true, true, true, true]
      · exact rfl
      · decide +kernel
      · exact rfl
      · intro R
        refine ⟨_, (by repeat constructor), ?_⟩
        apply EvW.callK ([])
        · exact rfl
        · exact fun w => Try.call52 _ w
        · (focus ((repeat constructor); done))
        · exact fun w1 S1 hS1 hs1 ho1 => rlook_spec x g now oc (atF (shp g oc).2.2.1 i) 0 sd.y sd.ly L_shut w1 S1 hS1 (hx.down hs1) hw (hs1 _ hq3) hL_shut
        · exact fun _ _ h => h
      (apply Par.new _ [false, false, false, false, false, false, false, false, false, false, false, false, false, false, false] [false, false, false, true, false, false, false, false, false, false, false, false, false, false, false] [true, false, true, false, false, true, true, true, true, true, true, true, true, true, true]; exact rfl; exact rfl; decide +kernel; intro R; refine ⟨_, _, _, (by repeat constructor), (by repeat constructor), (fun x => (by repeat constructor)), ?_⟩; (apply NewW.buildSlice; exact UndC.eq; exact SzC.eq; exact ZvC.eq; exact rfl; exact rfl; exact rfl; (focus ((repeat (first | exact Flat.nil | (apply Flat.one; (first | exact rfl | assumption)) | (apply Flat.cons; exact rfl; exact rfl))); done)); exact rfl; exact rfl; exact fun _ => rfl))
      apply Par.new _ [false, false, true, true, false, false, false, false, false, false, false, false, false, false, false] [false, false, false, false, true, false, false, false, false, false, false, false, false, false, false] [true, false, false, false, false, true, true, true, true, true, true, true, true, true, true]
      · exact rfl
      · exact rfl
      · decide +kernel
      · intro R
        refine ⟨_, _, _, (by repeat constructor), (by repeat constructor), (fun x => (by repeat constructor)), ?_⟩
        (apply NewW.append; exact rfl; exact rfl; exact UndC.eq; exact SzC.eq; exact ByC.eq; exact ZvC.eq; exact rfl; (first | exact notInt_sl UndC.eq | exact notInt_st UndC.eq); exact rfl; (focus ((repeat constructor); done)))
        · exact adds_blk (by repeat constructor) rfl rfl
        · (rw [hl_shut]; omega)
        · exact fun _ _ h => TakeT.st (by (focus ((repeat (first | exact TakeT.tail | apply TakeT.cons | exact Take.head | apply Take.tail | apply TakeT.drop)); done))) h
      (apply Par.quiet _ [true, false, false, false, true, true, true, true, true, true, true, true, true, true, true]; exact rfl; decide +kernel; exact rfl; intro R; refine ⟨_, (by repeat constructor), ?_⟩;
           (first | (apply EvW.fieldAddr0; exact rfl; exact FldC.eq)))
      apply Par.eff _ [true, false, false, false, false, false, false, false, false, false, false, false, false, false, false] [false, true, false, false, false, false, false, false, false, false, false, false, false, false, false] [false, false, false, false, true, true, true, true, true, true, true, true, true, true, true]
      · exact rfl
      · exact rfl
      · decide +kernel
      · intro R
        refine ⟨_, _, _, (by repeat constructor), (by repeat constructor), (by repeat constructor), ?_⟩
        (apply EffW.storeSl; exact rfl; exact rfl; (focus ((repeat constructor); done)); exact SzC.eq; (focus ((repeat constructor); done)))
      exact Par.nil
    · repeat (first | exact AllN.nil | (apply AllN.cons; (intro c x; (repeat (first | exact IndA.nil | (apply IndA.skip; decide +kernel) | apply IndA.same))))) 
    · repeat (first | exact AllN.nil | (apply AllN.cons; (intro c x; (repeat (first | exact IndT.nil | (apply IndT.skip; decide +kernel) | apply IndT.same))))) 
    · exact fun _ => rfl
    intro c
    refine ⟨_, (by repeat constructor), ?_⟩
    apply WE.writ
    · (focus ((repeat (first | exact Writ.nil | apply Writ.some | apply Writ.none)); done))
    generalize (c 14).1 = b14
    generalize (c 15).2 = d2
    rw [looks_snoc, looks_len, ← e_shut]
    repeat first
      | (apply WL.q; exact rfl; exact rfl; exact rfl; (first | (apply EvW.move; exact rfl) | (apply EvW.arN; exact rfl; exact rfl; exact rfl; refine i64_in ?_ ?_ <;> omega)))
      | refine WC.region ?_ | refine WL.nil ?_ | refine WE.next ?_ | refine WE.out ?_
    exact WE.again (s := (i, d)) ((i + 1, d2)) (by simp only []; omega) (by (focus ((repeat (first | exact trivial | (refine ⟨rfl, ?_⟩))); done))) (fun _ h => (by (try simp only []); exact h.keep (by repeat constructor))) (by (try simp only []); omega)
  obtain rfl : i = g.crs.length := by omega
  repeat first
    | (apply WL.q; exact rfl; exact rfl; exact rfl; (first | (apply EvW.move; exact rfl) | (apply EvW.nilPtr; exact rfl) | (apply EvW.fieldAddr0; exact rfl; exact FldC.eq) | (apply EvW.ldSeen; exact rfl; exact ScalC.eq; assumption; (first | exact rfl | assumption)) | (apply EvW.cmpF; exact rfl; exact rfl; exact rfl; omega) | (apply EvW.lenRow; exact rfl; exact UndC.eq; assumption)))
    | refine WC.seq ?_ | refine WC.region ?_ | refine WL.nil ?_ | refine WE.next ?_ | refine WC.block ?_ | refine WC.exit ?_ | refine WE.pass ?_ | refine WE.hit ?_ | refine WC.condF rfl ?_
  refine WC.loopK (σ := Nat × Value) [0, 1, 4, 5, 110, 111] (fun s => [(112, i64 s.1)]) (fun s => [.own 44 3 (a) (x.occ g now g.secs.length).length ((x.occ g now g.secs.length).flatMap lkC), .own 44 3 (b) (x.pos g now g.secs.length).length ((x.pos g now g.secs.length).flatMap lkC), .own 44 3 (d) (x.shut g now g.crs.length).length ((x.shut g now g.crs.length).flatMap lkC), .own 44 3 (s.2) (x.lamp g now s.1).length ((x.lamp g now s.1).flatMap lkC), .blk q #[a, b, d, s.2] 41, .blk r #[(.slice none 0 0), (.slice none 0 0), (.slice none 0 0), (.slice none 0 0)] 41]) (fun s => s.1 ≤ g.sigs.length) (fun s => g.sigs.length - s.1) (0, .slice none 0 0) (by (focus ((repeat (first | exact Pick.nil | (apply Pick.cons; exact rfl))); done))) (by (focus ((repeat (first | exact trivial | (refine ⟨rfl, ?_⟩))); done))) (fun _ h => h.keep (by repeat constructor)) (Nat.zero_le _) (fun s hs => ?_)
  obtain ⟨i, e⟩ := s
  simp only [List.cons_append, List.nil_append] at hs ⊢
  by_cases hlt3 : (i : Int) < g.sigs.length
  · skip
    have hl_lamp := x.lamp_len g now i
    have e_lamp : x.lamp g now (i + 1) = x.lamp g now i ++ [x.lk g now (ocOf g (g.sigs.getD i default).s) i 0 (·.2.2.2) Q4.ld] := range_map _ i
    repeat first
      | (apply WL.q; exact rfl; exact rfl; exact rfl; (first | (apply EvW.move; exact rfl) | (apply EvW.cmpT; exact rfl; exact rfl; exact rfl; omega) | (apply EvW.idxRow; exact rfl; exact rfl; exact UndC.eq; exact SzC.eq; assumption; omega; omega)))
      | refine WC.seq ?_ | refine WC.region ?_ | refine WL.nil ?_ | refine WE.next ?_ | refine WC.block ?_ | refine WC.skip ?_ | refine WC.condT rfl ?_
    (apply WL.q; exact rfl; exact rfl; exact rfl; (apply EvW.ldElem (xs := g.sigs) (z := (default : Sig)) (f := sigC); exact rfl; exact AggC.eq; exact SzC.eq; exact rfl; exact fun _ => rfl; assumption; omega))
    try refine WL.wanted rfl rfl rfl ?_
    (apply WL.alloc; exact rfl; exact ZvC.eq; exact rfl; intro z)
    rw [show ((i : Nat) : Int).toNat = i from rfl]
    generalize g.sigs.getD i default = s at e_lamp
    repeat first
      | (apply WL.q; exact rfl; exact rfl; exact rfl; (first | (apply EvW.move; exact rfl) | (apply EvW.assign; exact rfl) | (apply EvW.fieldAddr0; exact rfl; exact FldC.eq) | (apply EvW.load; exact rfl; exact ScalC.eq; (focus ((repeat constructor); done)); exact rfl)))
      | refine WC.seq ?_ | refine WC.region ?_ | refine WL.nil ?_ | refine WE.next ?_ | (apply WL.store; exact rfl; exact rfl; (first | assumption | exact rfl); exact SzC.eq; (first | assumption | exact rfl); (focus ((repeat constructor); done)))
    try refine WL.wanted rfl rfl rfl ?_
    apply WL.callA ([])
    · exact rfl
    · exact rfl
    · exact fun w => Try.call54 _ w
    · (focus ((repeat constructor); done))
    · exact fun w1 S1 hS1 hs1 ho1 => oc_spec x g s.s w1 S1 hS1 (hx.down hs1)
    rintro _ _ ⟨rfl, rfl⟩
    first | refine WL.app4 ?_ | refine WL.app3 ?_ | refine WL.app2 ?_ | refine WL.app1 ?_ | refine WL.app0 ?_ | skip
    obtain ⟨oc, hoc⟩ : ∃ oc, ocOf g s.s = oc := ⟨_, rfl⟩
    rw [hoc] at e_lamp ⊢
    have hle := shp_le hsm oc
    obtain ⟨L_lamp, hL_lamp⟩ : ∃ L, x.lk g now oc i 0 (·.2.2.2) Q4.ld = L := ⟨_, rfl⟩
    rw [hL_lamp] at e_lamp
    unfold RImg.lk at hL_lamp
    skip
    try refine WL.wanted rfl rfl rfl ?_
    apply WL.callA ([])
    · exact rfl
    · exact rfl
    · exact fun w => Try.call51 _ w
    · (focus ((repeat constructor); done))
    · exact fun w1 S1 hS1 hs1 ho1 => said_spec x g oc w1 S1 hS1 (hx.down hs1)
    rintro _ _ ⟨a1, b1, d1, e1, rfl, rfl⟩
    first | refine WL.app4 ?_ | refine WL.app3 ?_ | refine WL.app2 ?_ | refine WL.app1 ?_ | refine WL.app0 ?_ | skip
    repeat first
      | (apply WL.q; exact rfl; exact rfl; exact rfl; (first | (apply EvW.move; exact rfl) | (apply EvW.extract; exact rfl; exact rfl)))
    try refine WL.wanted rfl rfl rfl ?_
    (apply WL.alloc; exact rfl; exact ZvC.eq; exact rfl; intro z8)
    try refine WL.wanted rfl rfl rfl ?_
    (apply WL.alloc; exact rfl; exact ZvC.eq; exact rfl; intro z9)
    have hsd := hx.sd oc
    have o1 := hsd.a.row_one
    have o2 := hsd.b.row_one
    have o3 := hsd.y.row_one
    have o4 := hsd.d.row_one
    have hq1 := hsd.a
    have hq2 := hsd.b
    have hq3 := hsd.y
    have hq4 := hsd.d
    generalize x.sdOf oc = sd at hsd o1 o2 o3 o4 hq1 hq2 hq3 hq4 hL_lamp
    (first | refine WL.slOwn (v := a1) (by repeat constructor) ?_ | refine WC.slOwn (v := a1) (by repeat constructor) ?_)
    intro hc_a1 ho_a1
    (first | refine WL.slOwn (v := b1) (by repeat constructor) ?_ | refine WC.slOwn (v := b1) (by repeat constructor) ?_)
    intro hc_b1 ho_b1
    (first | refine WL.slOwn (v := d1) (by repeat constructor) ?_ | refine WC.slOwn (v := d1) (by repeat constructor) ?_)
    intro hc_d1 ho_d1
    (first | refine WL.slOwn (v := e1) (by repeat constructor) ?_ | refine WC.slOwn (v := e1) (by repeat constructor) ?_)
    intro hc_e1 ho_e1
    have hall1 : ([sd.a, sd.b, sd.y, sd.d] : List Value).all (·.oneCell') = true := by simp [o1, o2, o3, o4]
    have hall2 : ([a1, b1, d1, e1] : List Value).all (·.oneCell') = true := by
      simp at ho_a1 ho_b1 ho_d1 ho_e1
      simp [ho_a1, ho_b1, ho_d1, ho_e1]
    clear hc_a1 hc_b1 hc_d1 hc_e1 ho_a1 ho_b1 ho_d1 ho_e1
    repeat first
      | refine WL.nil ?_ | refine WE.next ?_ | (apply WL.store; exact rfl; exact rfl; (first | assumption | exact rfl); exact SzC.eq; (first | assumption | exact rfl); (focus ((repeat constructor); done)))
    repeat refine WC.seq ?_
    refine WC.keep (xs := [.blk q #[a, b, d, e] 41, .own 44 3 (e) (x.lamp g now i).length ((x.lamp g now i).flatMap lkC), .own 44 3 (a) (x.occ g now g.secs.length).length ((x.occ g now g.secs.length).flatMap lkC), .own 44 3 (b) (x.pos g now g.secs.length).length ((x.pos g now g.secs.length).flatMap lkC), .own 44 3 (d) (x.shut g now g.crs.length).length ((x.shut g now g.crs.length).flatMap lkC), .blk r #[(.slice none 0 0), (.slice none 0 0), (.slice none 0 0), (.slice none 0 0)] 41, .blk z #[i64 s.s, i64 s.e] 70, .blk z8 #[sd.a, sd.b, sd.y, sd.d] 54, .blk z9 #[a1, b1, d1, e1] 51, .own 3 1 (a1) (((shp g oc).1)).length ((((shp g oc).1)).map i64), .own 3 1 (b1) (((shp g oc).2.1)).length ((((shp g oc).2.1)).map i64), .own 3 1 (d1) (((shp g oc).2.2.1)).length ((((shp g oc).2.2.1)).map i64), .own 3 1 (e1) (((shp g oc).2.2.2)).length ((((shp g oc).2.2.2)).map i64)]) (by repeat constructor) ?_
    apply WC.par _ (fun c : Ch => [.blk q #[a, b, d, e] 41, .blk q #[a, b, d, (c 16).2] 41, .own 44 3 (e) (x.lamp g now i).length ((x.lamp g now i).flatMap lkC), .blk (c 15).1 #[i64 L_lamp.1, i64 L_lamp.2.1, .bool L_lamp.2.2] 44, .own 44 3 ((c 16).2) ((x.lamp g now i).length + 1) ((x.lamp g now i).flatMap lkC ++ [i64 L_lamp.1, i64 L_lamp.2.1, .bool L_lamp.2.2]), .own 44 3 (a) (x.occ g now g.secs.length).length ((x.occ g now g.secs.length).flatMap lkC), .own 44 3 (b) (x.pos g now g.secs.length).length ((x.pos g now g.secs.length).flatMap lkC), .own 44 3 (d) (x.shut g now g.crs.length).length ((x.shut g now g.crs.length).flatMap lkC), .blk r #[(.slice none 0 0), (.slice none 0 0), (.slice none 0 0), (.slice none 0 0)] 41, .blk z #[i64 s.s, i64 s.e] 70, .blk z8 #[sd.a, sd.b, sd.y, sd.d] 54, .blk z9 #[a1, b1, d1, e1] 51, .own 3 1 (a1) (((shp g oc).1)).length ((((shp g oc).1)).map i64), .own 3 1 (b1) (((shp g oc).2.1)).length ((((shp g oc).2.1)).map i64), .own 3 1 (d1) (((shp g oc).2.2.1)).length ((((shp g oc).2.2.1)).map i64), .own 3 1 (e1) (((shp g oc).2.2.2)).length ((((shp g oc).2.2.2)).map i64)]) [none, some 18, none, some 15, some 16, none, none, none, none, none, none, none, none, none, none, none] [some 18, none, some 16, some 16, none, none, none, none, none, none, none, none, none, none, none, none] [(15, fun x => .slice (some ⟨x.1, 0, none⟩) 1 1), (16, fun x => x.2)] Try.mixed
    · (focus ((repeat (first | exact Restr.nil | (apply Restr.keep; exact rfl; exact rfl) | (apply Restr.drop; exact rfl))); done))
    · intro c; exact (by repeat constructor)
    · exact rfl
    · decide +kernel
    · decide +kernel
    · intro c
      (apply Par.quiet _ [true, false, true, false, false, true, true, true, true, true, true, true, true, true, true, true]; exact rfl; decide +kernel; exact rfl; intro R; refine ⟨_, (by repeat constructor), ?_⟩;
           (first | (apply EvW.fieldAddr0; exact rfl; exact FldC.eq)))
      (apply Par.quiet _ [true, false, true, false, false, true, true, true, true, true, true, true, true, true, true, true]; exact rfl; decide +kernel; exact rfl; intro R; refine ⟨_, (by repeat constructor), ?_⟩;
           (first | (apply EvW.load; exact rfl; exact ScalC.eq; (focus ((repeat constructor); done)); exact rfl)))
      (apply Par.quiet _ [true, false, true, false, false, true, true, true, true, true, true, true, true, true, true, true]; exact rfl; decide +kernel; exact rfl; intro R; refine ⟨_, (by repeat constructor), ?_⟩;
           (first | (apply EvW.move; exact rfl)))
      (apply Par.quiet _ [true, false, true, false, false, true, true, true, true, true, true, true, true, true, true, true]; exact rfl; decide +kernel; exact rfl; intro R; refine ⟨_, (by repeat constructor), ?_⟩;
           (first | (apply EvW.move; exact rfl)))
      (apply Par.quiet _ [true, false, true, false, false, true, true, true, true, true, true, true, true, true, true, true]; exact rfl; decide +kernel; exact rfl; intro R; refine ⟨_, (by repeat constructor), ?_⟩;
           (first | (apply EvW.move; exact rfl)))
      (apply Par.quiet _ [true, false, true, false, false, true, true, true, true, true, true, true, true, true, true, true]; exact rfl; decide +kernel; exact rfl; intro R; refine ⟨_, (by repeat constructor), ?_⟩;
           (first | (apply EvW.fieldAddr0; exact rfl; exact FldC.eq)))
      (apply Par.quiet _ [true, false, true, false, false, true, true, true, true, true, true, true, true, true, true, true]; exact rfl; decide +kernel; exact rfl; intro R; refine ⟨_, (by repeat constructor), ?_⟩;
           (first | (apply EvW.load; exact rfl; exact ScalC.eq; (focus ((repeat constructor); done)); exact rfl)))
      apply Par.quiet _ [true, false, true, false, false, true, true, true, true, true, true, true, true, true, true, true]
      · exact rfl
      · decide +kernel
      · exact rfl
      · intro R
        refine ⟨_, (by repeat constructor), ?_⟩
        apply EvW.callK ([])
        · exact rfl
        · exact fun w => Try.call54 _ w
        · (focus ((repeat constructor); done))
        · exact fun w1 S1 hS1 hs1 ho1 => (by have h := oc_spec x g s.s w1 S1 hS1 (hx.down hs1); rw [hoc] at h; exact h)
        · exact fun _ _ h => h
      (apply Par.quiet _ [true, false, true, false, false, true, true, true, true, true, true, true, true, true, true, true]; exact rfl; decide +kernel; exact rfl; intro R; refine ⟨_, (by repeat constructor), ?_⟩;
           (first | (apply EvW.fieldAddr0; exact rfl; exact FldC.eq)))
      (apply Par.quiet _ [true, false, true, false, false, true, true, true, true, true, true, true, true, true, true, true]; exact rfl; decide +kernel; exact rfl; intro R; refine ⟨_, (by repeat constructor), ?_⟩;
           (first | (apply EvW.load; exact rfl; exact ScalC.eq; (focus ((repeat constructor); done)); exact rfl)))
      (apply Par.quiet _ [true, false, true, false, false, true, true, true, true, true, true, true, true, true, true, true]; exact rfl; decide +kernel; exact rfl; intro R; refine ⟨_, (by repeat constructor), ?_⟩;
           (first | (apply EvW.move; exact rfl)))
      apply Par.quiet _ [true, false, true, false, false, true, true, true, true, true, true, true, true, true, true, true]
      · exact rfl
      · decide +kernel
      · exact rfl
      · intro R
        refine ⟨_, (by repeat constructor), ?_⟩
        apply EvW.callK ([])
        · exact rfl
        · exact fun w => Try.call53 _ w
        · (focus ((repeat constructor); done))
        · exact fun w1 S1 hS1 hs1 ho1 => at_spec (shp g oc).2.2.2 e1 i w1 S1 hS1 (ho1 (.own 3 1 (e1) (((shp g oc).2.2.2)).length ((((shp g oc).2.2.2)).map i64)) _ (by repeat constructor)).own hle.2.2.2
        · exact fun _ _ h => h
      (apply Par.quiet _ [true, false, true, false, false, true, true, true, true, true, true, true, true, true, true, true]; exact rfl; decide +kernel; exact rfl; intro R; refine ⟨_, (by repeat constructor), ?_⟩;
           (first | (apply EvW.fieldAddr0; exact rfl; exact FldC.eq)))
      (apply Par.quiet _ [true, false, true, false, false, true, true, true, true, true, true, true, true, true, true, true]; exact rfl; decide +kernel; exact rfl; intro R; refine ⟨_, (by repeat constructor), ?_⟩;
           (first | (apply EvW.load; exact rfl; exact ScalC.eq; (focus ((repeat constructor); done)); exact rfl)))
      apply Par.quiet _ [true, false, true, false, false, true, true, true, true, true, true, true, true, true, true, true]
      · exact rfl
      · decide +kernel
      · exact rfl
      · intro R
        refine ⟨_, (by repeat constructor), ?_⟩
        apply EvW.callK ([])
        · exact rfl
        · exact fun w => Try.call52 _ w
        · (focus ((repeat constructor); done))
        · exact fun w1 S1 hS1 hs1 ho1 => rlook_spec x g now oc (atF (shp g oc).2.2.2 i) 0 sd.d sd.ld L_lamp w1 S1 hS1 (hx.down hs1) hw (hs1 _ hq4) hL_lamp
        · exact fun _ _ h => h
      (apply Par.new _ [false, false, false, false, false, false, false, false, false, false, false, false, false, false, false, false] [false, false, false, true, false, false, false, false, false, false, false, false, false, false, false, false] [true, false, true, false, false, true, true, true, true, true, true, true, true, true, true, true]; exact rfl; exact rfl; decide +kernel; intro R; refine ⟨_, _, _, (by repeat constructor), (by repeat constructor), (fun x => (by repeat constructor)), ?_⟩; (apply NewW.buildSlice; exact UndC.eq; exact SzC.eq; exact ZvC.eq; exact rfl; exact rfl; exact rfl; (focus ((repeat (first | exact Flat.nil | (apply Flat.one; (first | exact rfl | assumption)) | (apply Flat.cons; exact rfl; exact rfl))); done)); exact rfl; exact rfl; exact fun _ => rfl))
      apply Par.new _ [false, false, true, true, false, false, false, false, false, false, false, false, false, false, false, false] [false, false, false, false, true, false, false, false, false, false, false, false, false, false, false, false] [true, false, false, false, false, true, true, true, true, true, true, true, true, true, true, true]
      · exact rfl
      · exact rfl
      · decide +kernel
      · intro R
        refine ⟨_, _, _, (by repeat constructor), (by repeat constructor), (fun x => (by repeat constructor)), ?_⟩
        (apply NewW.append; exact rfl; exact rfl; exact UndC.eq; exact SzC.eq; exact ByC.eq; exact ZvC.eq; exact rfl; (first | exact notInt_sl UndC.eq | exact notInt_st UndC.eq); exact rfl; (focus ((repeat constructor); done)))
        · exact adds_blk (by repeat constructor) rfl rfl
        · (rw [hl_lamp]; omega)
        · exact fun _ _ h => TakeT.st (by (focus ((repeat (first | exact TakeT.tail | apply TakeT.cons | exact Take.head | apply Take.tail | apply TakeT.drop)); done))) h
      (apply Par.quiet _ [true, false, false, false, true, true, true, true, true, true, true, true, true, true, true, true]; exact rfl; decide +kernel; exact rfl; intro R; refine ⟨_, (by repeat constructor), ?_⟩;
           (first | (apply EvW.fieldAddr0; exact rfl; exact FldC.eq)))
      apply Par.eff _ [true, false, false, false, false, false, false, false, false, false, false, false, false, false, false, false] [false, true, false, false, false, false, false, false, false, false, false, false, false, false, false, false] [false, false, false, false, true, true, true, true, true, true, true, true, true, true, true, true]
      · exact rfl
      · exact rfl
      · decide +kernel
      · intro R
        refine ⟨_, _, _, (by repeat constructor), (by repeat constructor), (by repeat constructor), ?_⟩
        (apply EffW.storeSl; exact rfl; exact rfl; (focus ((repeat constructor); done)); exact SzC.eq; (focus ((repeat constructor); done)))
      exact Par.nil
    · repeat (first | exact AllN.nil | (apply AllN.cons; (intro c x; (repeat (first | exact IndA.nil | (apply IndA.skip; decide +kernel) | apply IndA.same))))) 
    · repeat (first | exact AllN.nil | (apply AllN.cons; (intro c x; (repeat (first | exact IndT.nil | (apply IndT.skip; decide +kernel) | apply IndT.same))))) 
    · exact fun _ => rfl
    intro c
    refine ⟨_, (by repeat constructor), ?_⟩
    apply WE.writ
    · (focus ((repeat (first | exact Writ.nil | apply Writ.some | apply Writ.none)); done))
    generalize (c 15).1 = b15
    generalize (c 16).2 = e2
    rw [looks_snoc, looks_len, ← e_lamp]
    repeat first
      | (apply WL.q; exact rfl; exact rfl; exact rfl; (first | (apply EvW.move; exact rfl) | (apply EvW.arN; exact rfl; exact rfl; exact rfl; refine i64_in ?_ ?_ <;> omega)))
      | refine WC.region ?_ | refine WL.nil ?_ | refine WE.next ?_ | refine WE.out ?_
    exact WE.again (s := (i, e)) ((i + 1, e2)) (by simp only []; omega) (by (focus ((repeat (first | exact trivial | (refine ⟨rfl, ?_⟩))); done))) (fun _ h => (by (try simp only []); exact h.keep (by repeat constructor))) (by (try simp only []); omega)
  obtain rfl : i = g.sigs.length := by omega
  (first | refine WL.slOwn (v := a) (by repeat constructor) ?_ | refine WC.slOwn (v := a) (by repeat constructor) ?_)
  intro hc_a ho_a
  (first | refine WL.slOwn (v := b) (by repeat constructor) ?_ | refine WC.slOwn (v := b) (by repeat constructor) ?_)
  intro hc_b ho_b
  (first | refine WL.slOwn (v := d) (by repeat constructor) ?_ | refine WC.slOwn (v := d) (by repeat constructor) ?_)
  intro hc_d ho_d
  (first | refine WL.slOwn (v := e) (by repeat constructor) ?_ | refine WC.slOwn (v := e) (by repeat constructor) ?_)
  intro hc_e ho_e
  have hall : ([a, b, d, e] : List Value).all (·.oneCell') = true := by
    simp at ho_a ho_b ho_d ho_e
    simp [ho_a, ho_b, ho_d, ho_e]
  clear hc_a hc_b hc_d hc_e ho_a ho_b ho_d ho_e
  repeat first
    | (apply WL.q; exact rfl; exact rfl; exact rfl; (first | (apply EvW.cmpF; exact rfl; exact rfl; exact rfl; omega) | (apply EvW.loadAgg; exact rfl; exact AggC.eq; exact SzC.eq; (focus ((repeat constructor); done)); (focus ((repeat (first | exact SubL.nil | apply SubL.cons | apply SubL.succ)); done)))))
    | refine WC.seq ?_ | refine WC.region ?_ | refine WL.nil ?_ | refine WE.next ?_ | refine WC.exit ?_ | refine WE.pass ?_ | refine WE.hit ?_ | refine WC.condF rfl ?_ | refine WC.ret ?_ | (apply WL.store; exact rfl; exact rfl; (first | assumption | exact rfl); exact SzC.eq; (first | assumption | exact rfl); (focus ((repeat constructor); done)))
  (apply WE.retC (A' := [.own 44 3 (a) (x.occ g now g.secs.length).length ((x.occ g now g.secs.length).flatMap lkC), .own 44 3 (b) (x.pos g now g.secs.length).length ((x.pos g now g.secs.length).flatMap lkC), .own 44 3 (d) (x.shut g now g.crs.length).length ((x.shut g now g.crs.length).flatMap lkC), .own 44 3 (e) (x.lamp g now g.sigs.length).length ((x.lamp g now g.sigs.length).flatMap lkC)]); exact rfl; exact rfl; (focus ((repeat constructor); done)); exact AggC.eq; exact SzC.eq; exact fun _ h => h.keep (by repeat constructor))
  exact ⟨a, b, d, e, rfl, rfl⟩
end Go.Proofs.Ytamofjpadnnppaa
namespace Go.Proofs.Ytamofjpadnnppaa
open Go.RowKit Go.BK
theorem sameLooks_spec (l : Looks) (va vb : Value) (w : World) (S : BSet) (hS : (sepL []).sat S w) (ha : Sees w S (.row 3 va l.length (l.flatMap lkC))) (hb : Sees w S (.row 3 vb l.length (l.flatMap lkC))) (hn : l.length ≤ 17592186044416) :
    Tri Try.prog 55 #[va, vb] w S fun u A => u = .bool true ∧ A = [] := by
  refine Tri.enter (l := [va, vb]) Try.func55 rfl Try.ntmps55 rfl [(0, va), (1, vb)] (subA rfl) hS ?_
  repeat first
    | (apply WL.q; exact rfl; exact rfl; exact rfl; (first | (apply EvW.move; exact rfl) | (apply EvW.assign; exact rfl) | (apply EvW.cmpF; exact rfl; exact rfl; exact rfl; omega) | (apply EvW.lenRow; exact rfl; exact UndC.eq; assumption)))
    | refine WC.seq ?_ | refine WC.region ?_ | refine WL.nil ?_ | refine WE.next ?_ | refine WC.block ?_ | refine WC.skip ?_ | refine WC.condF rfl ?_
  refine WC.loopK (σ := Nat) [0, 1, 12] (fun s => [(13, i64 s)]) (fun s => []) (fun s => s ≤ l.length) (fun s => l.length - s) 0 (by (focus ((repeat (first | exact Pick.nil | (apply Pick.cons; exact rfl))); done))) (by (focus ((repeat (first | exact trivial | (refine ⟨rfl, ?_⟩))); done))) (fun _ h => h.keep (by repeat constructor)) (Nat.zero_le _) (fun s hs => ?_)
  obtain ⟨i, rfl⟩ : ∃ q, q = s := ⟨s, rfl⟩
  simp only [List.cons_append, List.nil_append] at hs ⊢
  by_cases hlt : (i : Int) < l.length
  · repeat first
      | (apply WL.q; exact rfl; exact rfl; exact rfl; (first | (apply EvW.move; exact rfl) | (apply EvW.assign; exact rfl) | (apply EvW.cmpT; exact rfl; exact rfl; exact rfl; omega)))
      | refine WC.seq ?_ | refine WC.region ?_ | refine WL.nil ?_ | refine WE.next ?_ | refine WC.block ?_ | refine WC.skip ?_ | refine WC.condT rfl ?_
    repeat refine WC.seq ?_
    refine WC.keep (xs := []) (by repeat constructor) ?_
    apply WC.par _ (fun c : Ch => []) [] [] [] Try.mixed
    · (focus ((repeat (first | exact Restr.nil | (apply Restr.keep; exact rfl; exact rfl) | (apply Restr.drop; exact rfl))); done))
    · intro c; exact (by repeat constructor)
    · exact rfl
    · decide +kernel
    · decide +kernel
    · intro c
      (apply Par.quiet _ []; exact rfl; decide +kernel; exact rfl; intro R; refine ⟨_, (by repeat constructor), ?_⟩;
           (first | (apply EvW.move; exact rfl)))
      (apply Par.quiet _ []; exact rfl; decide +kernel; exact rfl; intro R; refine ⟨_, (by repeat constructor), ?_⟩;
           (first | (apply EvW.move; exact rfl)))
      (apply Par.quiet _ []; exact rfl; decide +kernel; exact rfl; intro R; refine ⟨_, (by repeat constructor), ?_⟩;
           (first | (apply EvW.idxRow; exact rfl; exact rfl; exact UndC.eq; exact SzC.eq; assumption; omega; omega)))
      apply Par.quiet _ []
      · exact rfl
      · decide +kernel
      · exact rfl
      · intro R
        refine ⟨_, (by repeat constructor), ?_⟩
        (apply EvW.ldElem (xs := l) (z := (default : Int × Int × Bool)) (f := lkC); exact rfl; exact AggC.eq; exact SzC.eq; exact rfl; exact fun _ => rfl; exact ha; omega)
      (apply Par.quiet _ []; exact rfl; decide +kernel; exact rfl; intro R; refine ⟨_, (by repeat constructor), ?_⟩;
           (first | (apply EvW.move; exact rfl)))
      (apply Par.quiet _ []; exact rfl; decide +kernel; exact rfl; intro R; refine ⟨_, (by repeat constructor), ?_⟩;
           (first | (apply EvW.move; exact rfl)))
      (apply Par.quiet _ []; exact rfl; decide +kernel; exact rfl; intro R; refine ⟨_, (by repeat constructor), ?_⟩;
           (first | (apply EvW.idxRow; exact rfl; exact rfl; exact UndC.eq; exact SzC.eq; assumption; omega; omega)))
      apply Par.quiet _ []
      · exact rfl
      · decide +kernel
      · exact rfl
      · intro R
        refine ⟨_, (by repeat constructor), ?_⟩
        (apply EvW.ldElem (xs := l) (z := (default : Int × Int × Bool)) (f := lkC); exact rfl; exact AggC.eq; exact SzC.eq; exact rfl; exact fun _ => rfl; exact hb; omega)
      apply Par.quiet _ []
      · exact rfl
      · decide +kernel
      · exact rfl
      · intro R
        refine ⟨_, (by repeat constructor), ?_⟩
        (apply EvW.neMix [(0, false), (1, false), (2, true)]; exact rfl; exact rfl; kernel_rfl; exact rfl)
      exact Par.nil
    · repeat (first | exact AllN.nil | (apply AllN.cons; (intro c x; (repeat (first | exact IndA.nil | (apply IndA.skip; decide +kernel) | apply IndA.same))))) 
    · repeat (first | exact AllN.nil | (apply AllN.cons; (intro c x; (repeat (first | exact IndT.nil | (apply IndT.skip; decide +kernel) | apply IndT.same))))) 
    · exact fun _ => rfl
    intro c
    refine ⟨_, (by repeat constructor), ?_⟩
    apply WE.writ
    · (focus ((repeat (first | exact Writ.nil | apply Writ.some | apply Writ.none)); done))
    repeat first
      | (apply WL.q; exact rfl; exact rfl; exact rfl; (first | (apply EvW.move; exact rfl) | (apply EvW.arN; exact rfl; exact rfl; exact rfl; refine i64_in ?_ ?_ <;> omega)))
      | refine WC.region ?_ | refine WL.nil ?_ | refine WE.next ?_ | refine WC.skip ?_ | refine WE.out ?_ | refine WC.condF rfl ?_
    exact WE.again (s := i) ((i + 1)) (by omega) (by (focus ((repeat (first | exact trivial | (refine ⟨rfl, ?_⟩))); done))) (fun _ h => (by (try simp only []); exact h.keep (by repeat constructor))) (by (try simp only []); omega)
  · repeat first
      | (apply WL.q; exact rfl; exact rfl; exact rfl; (first | (apply EvW.assign; exact rfl) | (apply EvW.cmpF; exact rfl; exact rfl; exact rfl; omega)))
      | refine WC.seq ?_ | refine WC.region ?_ | refine WL.nil ?_ | refine WE.next ?_ | refine WC.exit ?_ | refine WE.pass ?_ | refine WE.hit ?_ | refine WC.condF rfl ?_ | refine WC.ret ?_
    refine WE.bare ?_
    refine WE.ret1 rfl rfl ?_
    exact ⟨rfl, rfl⟩
theorem sameI_spec (l1 l2 l3 l4 : Looks) (a1 a2 a3 a4 b1 b2 b3 b4 : Value) (w : World) (S : BSet) (hS : (sepL []).sat S w) (h1 : Sees w S (.row 3 a1 l1.length (l1.flatMap lkC))) (h2 : Sees w S (.row 3 a2 l2.length (l2.flatMap lkC))) (h3 : Sees w S (.row 3 a3 l3.length (l3.flatMap lkC))) (h4 : Sees w S (.row 3 a4 l4.length (l4.flatMap lkC))) (k1 : Sees w S (.row 3 b1 l1.length (l1.flatMap lkC))) (k2 : Sees w S (.row 3 b2 l2.length (l2.flatMap lkC))) (k3 : Sees w S (.row 3 b3 l3.length (l3.flatMap lkC))) (k4 : Sees w S (.row 3 b4 l4.length (l4.flatMap lkC))) (n1 : l1.length ≤ 17592186044416) (n2 : l2.length ≤ 17592186044416) (n3 : l3.length ≤ 17592186044416) (n4 : l4.length ≤ 17592186044416) :
    Tri Try.prog 22 #[.agg #[a1, a2, a3, a4], .agg #[b1, b2, b3, b4]] w S fun u A => u = .bool true ∧ A = [] := by
  refine Tri.enter (l := [.agg #[a1, a2, a3, a4], .agg #[b1, b2, b3, b4]]) Try.func22 rfl Try.ntmps22 rfl [(0, .agg #[a1, a2, a3, a4]), (1, .agg #[b1, b2, b3, b4])] (subA rfl) hS ?_
  repeat first
    | refine WC.seq ?_ | refine WC.region ?_
  try refine WL.wanted rfl rfl rfl ?_
  (apply WL.box; exact rfl; exact rfl; exact rfl; intro q1)
  skip
  try refine WL.wanted rfl rfl rfl ?_
  (apply WL.box; exact rfl; exact rfl; exact rfl; intro q2)
  repeat first
    | (apply WL.q; exact rfl; exact rfl; exact rfl; (first | (apply EvW.assign; exact rfl) | (apply EvW.fieldAddr0; exact rfl; exact FldC.eq) | (apply EvW.load; exact rfl; exact ScalC.eq; (focus ((repeat constructor); done)); exact rfl)))
    | refine WC.seq ?_ | refine WC.region ?_ | refine WL.nil ?_ | refine WE.next ?_
  try refine WL.wanted rfl rfl rfl ?_
  apply WL.callA ([])
  · exact rfl
  · exact rfl
  · exact fun w => Try.call55 _ w
  · (focus ((repeat constructor); done))
  · exact fun w1 S1 hS1 hs1 ho1 => sameLooks_spec l1 a1 b1 w1 S1 hS1 (hs1 _ h1) (hs1 _ k1) n1
  rintro _ _ ⟨rfl, rfl⟩
  first | refine WL.app4 ?_ | refine WL.app3 ?_ | refine WL.app2 ?_ | refine WL.app1 ?_ | refine WL.app0 ?_ | skip
  repeat first
    | (apply WL.q; exact rfl; exact rfl; exact rfl; (first | (apply EvW.move; exact rfl) | (apply EvW.fieldAddr0; exact rfl; exact FldC.eq) | (apply EvW.load; exact rfl; exact ScalC.eq; (focus ((repeat constructor); done)); exact rfl)))
    | refine WL.wanted rfl rfl rfl ?_
  try refine WL.wanted rfl rfl rfl ?_
  apply WL.callA ([])
  · exact rfl
  · exact rfl
  · exact fun w => Try.call55 _ w
  · (focus ((repeat constructor); done))
  · exact fun w1 S1 hS1 hs1 ho1 => sameLooks_spec l2 a2 b2 w1 S1 hS1 (hs1 _ h2) (hs1 _ k2) n2
  rintro _ _ ⟨rfl, rfl⟩
  first | refine WL.app4 ?_ | refine WL.app3 ?_ | refine WL.app2 ?_ | refine WL.app1 ?_ | refine WL.app0 ?_ | skip
  repeat first
    | (apply WL.q; exact rfl; exact rfl; exact rfl; (first | (apply EvW.move; exact rfl) | (apply EvW.fieldAddr0; exact rfl; exact FldC.eq) | (apply EvW.load; exact rfl; exact ScalC.eq; (focus ((repeat constructor); done)); exact rfl) | (apply EvW.pickT; exact rfl; exact rfl)))
    | refine WL.wanted rfl rfl rfl ?_
  try refine WL.wanted rfl rfl rfl ?_
  apply WL.callA ([])
  · exact rfl
  · exact rfl
  · exact fun w => Try.call55 _ w
  · (focus ((repeat constructor); done))
  · exact fun w1 S1 hS1 hs1 ho1 => sameLooks_spec l3 a3 b3 w1 S1 hS1 (hs1 _ h3) (hs1 _ k3) n3
  rintro _ _ ⟨rfl, rfl⟩
  first | refine WL.app4 ?_ | refine WL.app3 ?_ | refine WL.app2 ?_ | refine WL.app1 ?_ | refine WL.app0 ?_ | skip
  repeat first
    | (apply WL.q; exact rfl; exact rfl; exact rfl; (first | (apply EvW.move; exact rfl) | (apply EvW.fieldAddr0; exact rfl; exact FldC.eq) | (apply EvW.load; exact rfl; exact ScalC.eq; (focus ((repeat constructor); done)); exact rfl) | (apply EvW.pickT; exact rfl; exact rfl)))
    | refine WL.wanted rfl rfl rfl ?_
  try refine WL.wanted rfl rfl rfl ?_
  apply WL.callA ([])
  · exact rfl
  · exact rfl
  · exact fun w => Try.call55 _ w
  · (focus ((repeat constructor); done))
  · exact fun w1 S1 hS1 hs1 ho1 => sameLooks_spec l4 a4 b4 w1 S1 hS1 (hs1 _ h4) (hs1 _ k4) n4
  rintro _ _ ⟨rfl, rfl⟩
  first | refine WL.app4 ?_ | refine WL.app3 ?_ | refine WL.app2 ?_ | refine WL.app1 ?_ | refine WL.app0 ?_ | skip
  repeat first
    | (apply WL.q; exact rfl; exact rfl; exact rfl; (first | (apply EvW.assign; exact rfl) | (apply EvW.pickT; exact rfl; exact rfl)))
    | refine WL.nil ?_ | refine WE.next ?_ | refine WC.ret ?_
  refine WE.bare ?_
  refine WE.ret1 rfl rfl ?_
  exact ⟨rfl, rfl⟩
end Go.Proofs.Ytamofjpadnnppaa
namespace Go.Proofs.Ytamofjpadnnppaa
open Go.RowKit Go.BK
def rSm (e : REar) : List Value := [i64 e.stamp]
def earH (e : REar) : HP := sepL [.blk (e).r #[i64 (e).rc.peer, i64 (e).rc.age, i64 (e).rc.last, (e).v] 106, .own 3 1 (e.v) (e.ns).length ((e.ns).map i64), .own 3 1 ((e.sd).a) ((e.sd).la).length (((e.sd).la).map i64), .own 3 1 ((e.sd).b) ((e.sd).lb).length (((e.sd).lb).map i64), .own 3 1 ((e.sd).y) ((e.sd).ly).length (((e.sd).ly).map i64), .own 3 1 ((e.sd).d) ((e.sd).ld).length (((e.sd).ld).map i64)]
def rimgH (c : Cfg) (x : RImg) : HP := sepL [.blk (x).b #[(c).vS, (c).vJ, (c).vG, (c).vC, (c).vR, i64 (c).age, i64 (c).brake, i64 (c).hold, i64 (c).budget, (x).rv, (x).sv, (x).tv] 102, .own 103 1 (x.rv) (x.es).length ((x.es).map rPtr), .own 54 4 (x.sv) (x.es).length ((x.es).flatMap rSt), .own 3 1 (x.tv) (x.es).length ((x.es).flatMap rSm), sepL (x.es.map earH)]
def newE (c : Cfg) (k : Nat) (p : Nat) : REar := ⟨p, .slice none 0 0, [], Rcv.new k c.age, nilQ, -1⟩
def esOf (c : Cfg) (ps : List Nat) : List REar := ps.mapIdx (newE c)
theorem esOf_snoc (c : Cfg) (ps : List Nat) (p : Nat) : esOf c (ps ++ [p]) = esOf c ps ++ [newE c ps.length p] := by unfold esOf; rw [List.mapIdx_append]; simp
theorem esOf_len (c : Cfg) (ps : List Nat) : (esOf c ps).length = ps.length := by unfold esOf; rw [List.length_mapIdx]
theorem es_ptr (c : Cfg) (ps : List Nat) (p : Nat) : (esOf c ps).map rPtr ++ [ptr p 0] = (esOf c (ps ++ [p])).map rPtr := by rw [esOf_snoc, List.map_append]; rfl
theorem es_st (c : Cfg) (ps : List Nat) (p : Nat) : (esOf c ps).flatMap rSt ++ [(.slice none 0 0), (.slice none 0 0), (.slice none 0 0), (.slice none 0 0)] = (esOf c (ps ++ [p])).flatMap rSt := by rw [esOf_snoc, List.flatMap_append]; rfl
theorem es_sm (c : Cfg) (ps : List Nat) (p : Nat) : (esOf c ps).flatMap rSm ++ [i64 (-1)] = (esOf c (ps ++ [p])).flatMap rSm := by rw [esOf_snoc, List.flatMap_append]; rfl
theorem es_succ (c : Cfg) (ps : List Nat) (p : Nat) : (esOf c ps).length + 1 = (esOf c (ps ++ [p])).length := by rw [esOf_len, esOf_len]; simp
set_option maxHeartbeats 1000000 in
theorem rnewI_spec (g : Cfg) (w : World) (S : BSet) (hS : (sepL []).sat S w)  :
    Tri Try.prog 16 #[.agg (cfgC g).toArray] w S fun u A => ∃ p : RImg, u = ptr p.b 0 ∧ (∃ ps : List Nat, ps.length = 4 ∧ p.es = esOf g ps) ∧ A = [rimgH g p] := by
  refine Tri.enter (l := [.agg (cfgC g).toArray]) Try.func16 rfl Try.ntmps16 rfl [(0, .agg (cfgC g).toArray)] (subA rfl) hS ?_
  repeat first
    | refine WC.seq ?_ | refine WC.region ?_
  try refine WL.wanted rfl rfl rfl ?_
  (apply WL.box; exact rfl; exact rfl; exact rfl; intro q0)
  repeat first
    | (apply WL.q; exact rfl; exact rfl; exact rfl; (first | (apply EvW.assign; exact rfl) | (apply EvW.loadAgg; exact rfl; exact AggC.eq; exact SzC.eq; (focus ((repeat constructor); done)); (focus ((repeat (first | exact SubL.nil | apply SubL.cons | apply SubL.succ)); done))) | (apply EvW.build; exact PlC.eq; exact ZvC.eq; exact rfl; exact rfl; (focus ((repeat (first | exact Fills.nil | (apply Fills.cons; exact rfl; (first | assumption | exact rfl); exact rfl) | exact SetMany.nil | apply SetMany.cons | apply SetMany.succ)); done)))))
    | refine WC.seq ?_ | refine WC.region ?_ | refine WL.nil ?_ | refine WE.next ?_
  try refine WL.wanted rfl rfl rfl ?_
  (apply WL.box; exact rfl; exact rfl; exact rfl; intro mb)
  repeat first
    | (apply WL.q; exact rfl; exact rfl; exact rfl; (first | (apply EvW.assign; exact rfl)))
    | refine WC.seq ?_ | refine WC.region ?_ | refine WL.nil ?_ | refine WE.next ?_ | refine WC.block ?_
  refine WC.noneL ?_
  refine WC.ownNil 103 1 ?_
  refine WC.ownNil 54 4 ?_
  refine WC.ownNil 3 1 ?_
  refine WC.loopK (σ := Nat × Value × Value × Value × List Nat) [1, 3] (fun s => [(4, i64 s.1)]) (fun s => [.blk q0 (cfgC g).toArray 30, .blk mb #[(g).vS, (g).vJ, (g).vG, (g).vC, (g).vR, i64 (g).age, i64 (g).brake, i64 (g).hold, i64 (g).budget, s.2.1, s.2.2.1, s.2.2.2.1] 102, .own 103 1 (s.2.1) ((esOf g s.2.2.2.2)).length (((esOf g s.2.2.2.2)).map rPtr), .own 54 4 (s.2.2.1) ((esOf g s.2.2.2.2)).length (((esOf g s.2.2.2.2)).flatMap rSt), .own 3 1 (s.2.2.2.1) ((esOf g s.2.2.2.2)).length (((esOf g s.2.2.2.2)).flatMap rSm), sepL ((esOf g s.2.2.2.2).map earH)]) (fun s => s.1 ≤ 4 ∧ s.2.2.2.2.length = s.1) (fun s => 4 - s.1) (0, .slice none 0 0, .slice none 0 0, .slice none 0 0, []) (by (focus ((repeat (first | exact Pick.nil | (apply Pick.cons; exact rfl))); done))) (by (focus ((repeat (first | exact trivial | (refine ⟨rfl, ?_⟩))); done))) (fun _ h => h.keep (by repeat constructor)) ⟨Nat.zero_le _, rfl⟩ (fun s hs => ?_)
  obtain ⟨i, rv, sv, tv, ps⟩ := s
  simp only [List.cons_append, List.nil_append] at hs ⊢
  obtain ⟨hi, hl⟩ := hs
  subst hl
  have hle := esOf_len g ps
  by_cases hlt : ((ps.length : Nat) : Int) < 4
  · repeat first
      | (apply WL.q; exact rfl; exact rfl; exact rfl; (first | (apply EvW.move; exact rfl) | (apply EvW.cmpT; exact rfl; exact rfl; exact rfl; omega)))
      | refine WC.seq ?_ | refine WC.region ?_ | refine WL.nil ?_ | refine WE.next ?_ | refine WC.block ?_ | refine WC.skip ?_ | refine WC.condT rfl ?_
    refine WC.ownNil 3 1 ?_
    refine WC.ownNil 3 1 ?_
    refine WC.ownNil 3 1 ?_
    refine WC.ownNil 3 1 ?_
    repeat refine WC.seq ?_
    refine WC.keep (xs := [.blk q0 (cfgC g).toArray 30, .blk mb #[(g).vS, (g).vJ, (g).vG, (g).vC, (g).vR, i64 (g).age, i64 (g).brake, i64 (g).hold, i64 (g).budget, rv, sv, tv] 102, .own 103 1 (rv) ((esOf g ps)).length (((esOf g ps)).map rPtr), .own 54 4 (sv) ((esOf g ps)).length (((esOf g ps)).flatMap rSt), .own 3 1 (tv) ((esOf g ps)).length (((esOf g ps)).flatMap rSm), .own 3 1 (.slice none 0 0) 0 [], .own 3 1 (.slice none 0 0) 0 [], .own 3 1 (.slice none 0 0) 0 [], .own 3 1 (.slice none 0 0) 0 [], sepL ((esOf g ps).map earH)]) (by repeat constructor) ?_
    apply WC.par _ (fun c : Ch => [.blk q0 (cfgC g).toArray 30, .blk mb #[(g).vS, (g).vJ, (g).vG, (g).vC, (g).vR, i64 (g).age, i64 (g).brake, i64 (g).hold, i64 (g).budget, rv, sv, tv] 102, .blk mb #[(g).vS, (g).vJ, (g).vG, (g).vC, (g).vR, i64 (g).age, i64 (g).brake, i64 (g).hold, i64 (g).budget, (c 11).2, sv, tv] 102, .own 103 1 (rv) ((esOf g ps)).length (((esOf g ps)).map rPtr), .blk (c 10).1 #[ptr (c 9).1 0] 103, .own 103 1 ((c 11).2) ((esOf g ps).length + 1) ((esOf g ps).map rPtr ++ [ptr (c 9).1 0]), .blk (c 9).1 #[i64 ((ps.length : Nat) : Int), i64 g.age, i64 (-1), (.slice none 0 0)] 106, .own 3 1 (.slice none 0 0) 0 [], .own 54 4 (sv) ((esOf g ps)).length (((esOf g ps)).flatMap rSt), .own 3 1 (tv) ((esOf g ps)).length (((esOf g ps)).flatMap rSm), .own 3 1 (.slice none 0 0) 0 [], .own 3 1 (.slice none 0 0) 0 [], .own 3 1 (.slice none 0 0) 0 [], .own 3 1 (.slice none 0 0) 0 [], sepL ((esOf g ps).map earH)]) [none, none, some 14, none, some 10, some 11, some 9, some 9, none, none, none, none, none, none, none] [none, some 14, none, some 11, some 11, none, none, none, none, none, none, none, none, none, none] [(9, fun x => ptr x.1 0), (10, fun x => .slice (some ⟨x.1, 0, none⟩) 1 1), (11, fun x => x.2)] Try.mixed
    · (focus ((repeat (first | exact Restr.nil | (apply Restr.keep; exact rfl; exact rfl) | (apply Restr.drop; exact rfl))); done))
    · intro c; exact (by repeat constructor)
    · exact rfl
    · decide +kernel
    · decide +kernel
    · intro c
      (apply Par.quiet _ [true, true, false, false, false, false, false, false, true, true, true, true, true, true, true]; exact rfl; decide +kernel; exact rfl; intro R; refine ⟨_, (by repeat constructor), ?_⟩;
           (first | (apply EvW.move; exact rfl)))
      (apply Par.quiet _ [true, true, false, true, false, false, false, false, true, true, true, true, true, true, true]; exact rfl; decide +kernel; exact rfl; intro R; refine ⟨_, (by repeat constructor), ?_⟩;
           (first | (apply EvW.move; exact rfl)))
      (apply Par.quiet _ [true, true, false, true, false, false, false, false, true, true, true, true, true, true, true]; exact rfl; decide +kernel; exact rfl; intro R; refine ⟨_, (by repeat constructor), ?_⟩;
           (first | (apply EvW.nilPtr; exact rfl)))
      (apply Par.quiet _ [true, true, false, true, false, false, false, false, true, true, true, true, true, true, true]; exact rfl; decide +kernel; exact rfl; intro R; refine ⟨_, (by repeat constructor), ?_⟩;
           (first | (apply EvW.fieldAddr0; exact rfl; exact FldC.eq)))
      (apply Par.quiet _ [true, true, false, true, false, false, false, false, true, true, true, true, true, true, true]; exact rfl; decide +kernel; exact rfl; intro R; refine ⟨_, (by repeat constructor), ?_⟩;
           (first | (apply EvW.load; exact rfl; exact ScalC.eq; (focus ((repeat constructor); done)); exact rfl)))
      (apply Par.quiet _ [true, true, false, true, false, false, false, false, true, true, true, true, true, true, true]; exact rfl; decide +kernel; exact rfl; intro R; refine ⟨_, (by repeat constructor), ?_⟩;
           (first | (apply EvW.move; exact rfl)))
      (apply Par.quiet _ [true, true, false, true, false, false, false, false, true, true, true, true, true, true, true]; exact rfl; decide +kernel; exact rfl; intro R; refine ⟨_, (by repeat constructor), ?_⟩;
           (first | (apply EvW.fieldAddr0; exact rfl; exact FldC.eq)))
      (apply Par.quiet _ [true, true, false, true, false, false, false, false, true, true, true, true, true, true, true]; exact rfl; decide +kernel; exact rfl; intro R; refine ⟨_, (by repeat constructor), ?_⟩;
           (first | (apply EvW.fieldAddr; exact rfl; exact FldC.eq)))
      (apply Par.quiet _ [true, true, false, true, false, false, false, false, true, true, true, true, true, true, true]; exact rfl; decide +kernel; exact rfl; intro R; refine ⟨_, (by repeat constructor), ?_⟩;
           (first | (apply EvW.load; exact rfl; exact ScalC.eq; (focus ((repeat constructor); done)); exact rfl)))
      apply Par.new _ [false, false, false, false, false, false, false, false, false, false, false, false, false, false, false] [false, false, false, false, false, false, true, true, false, false, false, false, false, false, false] [true, true, false, true, false, false, false, false, true, true, true, true, true, true, true]
      · exact rfl
      · exact rfl
      · decide +kernel
      · intro R
        refine ⟨_, _, _, (by repeat constructor), (by repeat constructor), (fun x => (by repeat constructor)), ?_⟩
        apply NewW.call (fun x => [.blk x.1 #[i64 ((ps.length : Nat) : Int), i64 g.age, i64 (-1), (.slice none 0 0)] 106, .own 3 1 (.slice none 0 0) 0 []])
        · exact rfl
        · exact fun w1 S1 hS1 hs1 ho1 => rnew09_spec (ps.length : Int) g.age w1 S1 hS1
        · exact fun w => Try.call47 _ w
        · (focus ((repeat constructor); done))
        · rintro _ _ ⟨b, rfl, rfl⟩; exact ⟨(b, .bool true), rfl, rfl⟩
        · exact fun x _ h => TakeT.st (by (focus ((repeat (first | exact TakeT.tail | apply TakeT.cons | exact Take.head | apply Take.tail | apply TakeT.drop)); done))) h
      (apply Par.new _ [false, false, false, false, false, false, false, false, false, false, false, false, false, false, false] [false, false, false, false, true, false, false, false, false, false, false, false, false, false, false] [true, true, false, true, false, false, true, true, true, true, true, true, true, true, true]; exact rfl; exact rfl; decide +kernel; intro R; refine ⟨_, _, _, (by repeat constructor), (by repeat constructor), (fun x => (by repeat constructor)), ?_⟩; (apply NewW.buildSlice; exact UndC.eq; exact SzC.eq; exact ZvC.eq; exact rfl; exact rfl; exact rfl; (focus ((repeat (first | exact Flat.nil | (apply Flat.one; (first | exact rfl | assumption)) | (apply Flat.cons; exact rfl; exact rfl))); done)); exact rfl; exact rfl; exact fun _ => rfl))
      apply Par.new _ [false, false, false, true, true, false, false, false, false, false, false, false, false, false, false] [false, false, false, false, false, true, false, false, false, false, false, false, false, false, false] [true, true, false, false, false, false, true, true, true, true, true, true, true, true, true]
      · exact rfl
      · exact rfl
      · decide +kernel
      · intro R
        refine ⟨_, _, _, (by repeat constructor), (by repeat constructor), (fun x => (by repeat constructor)), ?_⟩
        (apply NewW.append; exact rfl; exact rfl; exact UndC.eq; exact SzC.eq; exact ByC.eq; exact ZvC.eq; exact rfl; (first | exact notInt_sl UndC.eq | exact notInt_st UndC.eq); exact rfl; (focus ((repeat constructor); done)))
        · exact adds_blk (by repeat constructor) rfl rfl
        · (omega)
        · exact fun _ _ h => TakeT.st (by (focus ((repeat (first | exact TakeT.tail | apply TakeT.cons | exact Take.head | apply Take.tail | apply TakeT.drop)); done))) h
      (apply Par.quiet _ [true, true, false, false, false, true, true, true, true, true, true, true, true, true, true]; exact rfl; decide +kernel; exact rfl; intro R; refine ⟨_, (by repeat constructor), ?_⟩;
           (first | (apply EvW.nilPtr; exact rfl)))
      (apply Par.quiet _ [true, true, false, false, false, true, true, true, true, true, true, true, true, true, true]; exact rfl; decide +kernel; exact rfl; intro R; refine ⟨_, (by repeat constructor), ?_⟩;
           (first | (apply EvW.fieldAddr0; exact rfl; exact FldC.eq)))
      apply Par.eff _ [false, true, false, false, false, false, false, false, false, false, false, false, false, false, false] [false, false, true, false, false, false, false, false, false, false, false, false, false, false, false] [true, false, false, false, false, true, true, true, true, true, true, true, true, true, true]
      · exact rfl
      · exact rfl
      · decide +kernel
      · intro R
        refine ⟨_, _, _, (by repeat constructor), (by repeat constructor), (by repeat constructor), ?_⟩
        (apply EffW.storeSl; exact rfl; exact rfl; (focus ((repeat constructor); done)); exact SzC.eq; (focus ((repeat constructor); done)))
      exact Par.nil
    · repeat (first | exact AllN.nil | (apply AllN.cons; (intro c x; (repeat (first | exact IndA.nil | (apply IndA.skip; decide +kernel) | apply IndA.same))))) 
    · repeat (first | exact AllN.nil | (apply AllN.cons; (intro c x; (repeat (first | exact IndT.nil | (apply IndT.skip; decide +kernel) | apply IndT.same))))) 
    · exact fun _ => rfl
    intro c
    refine ⟨_, (by repeat constructor), ?_⟩
    apply WE.writ
    · (focus ((repeat (first | exact Writ.nil | apply Writ.some | apply Writ.none)); done))
    generalize (c 9).1 = b9
    generalize (c 10).1 = b10
    generalize (c 11).2 = rv2
    rw [es_ptr, es_succ g ps b9]
    repeat first
      | (apply WL.q; exact rfl; exact rfl; exact rfl; (first | (apply EvW.move; exact rfl) | (apply EvW.nilPtr; exact rfl) | (apply EvW.fieldAddr0; exact rfl; exact FldC.eq) | (apply EvW.load; exact rfl; exact ScalC.eq; (focus ((repeat constructor); done)); exact rfl) | (apply EvW.build; exact PlC.eq; exact ZvC.eq; exact rfl; exact rfl; (focus ((repeat (first | exact Fills.nil | (apply Fills.cons; exact rfl; (first | assumption | exact rfl); exact rfl) | exact SetMany.nil | apply SetMany.cons | apply SetMany.succ)); done)))))
      | refine WC.seq ?_ | refine WC.region ?_ | refine WE.next ?_
    try refine WL.wanted rfl rfl rfl ?_
    (apply WL.buildSlice; exact rfl; exact UndC.eq; exact SzC.eq; exact ZvC.eq; exact rfl; exact rfl; exact rfl; ((focus ((repeat (first | exact Flat.nil | (apply Flat.one; (first | exact rfl | assumption)) | (apply Flat.cons; exact rfl; exact rfl))); done))); exact rfl; exact rfl; intro k1)
    skip
    try refine WL.wanted rfl rfl rfl ?_
    (apply WL.append; exact rfl; exact rfl; exact rfl; exact UndC.eq; exact SzC.eq; exact ByC.eq; exact ZvC.eq; exact rfl; (first | exact notInt_sl UndC.eq | exact notInt_st UndC.eq); exact rfl; (focus ((repeat constructor); done)))
    · exact adds_blk .head rfl rfl
    · (omega)
    intro sv2
    (first | refine WL.slOwn (v := sv2) (by repeat constructor) ?_ | refine WC.slOwn (v := sv2) (by repeat constructor) ?_)
    intro hc_sv2 ho_sv2
    repeat first
      | (apply WL.q; exact rfl; exact rfl; exact rfl; (first | (apply EvW.move; exact rfl) | (apply EvW.nilPtr; exact rfl) | (apply EvW.fieldAddr0; exact rfl; exact FldC.eq) | (apply EvW.load; exact rfl; exact ScalC.eq; (focus ((repeat constructor); done)); exact rfl)))
      | refine WC.region ?_ | refine WL.nil ?_ | refine WE.next ?_ | (apply WL.store; exact rfl; exact rfl; (first | assumption | exact rfl); exact SzC.eq; (first | assumption | exact rfl); (focus ((repeat constructor); done)))
    try refine WL.wanted rfl rfl rfl ?_
    (apply WL.buildSlice; exact rfl; exact UndC.eq; exact SzC.eq; exact ZvC.eq; exact rfl; exact rfl; exact rfl; ((focus ((repeat (first | exact Flat.nil | (apply Flat.one; (first | exact rfl | assumption)) | (apply Flat.cons; exact rfl; exact rfl))); done))); exact rfl; exact rfl; intro k2)
    skip
    try refine WL.wanted rfl rfl rfl ?_
    (apply WL.append; exact rfl; exact rfl; exact rfl; exact UndC.eq; exact SzC.eq; exact ByC.eq; exact ZvC.eq; exact rfl; (first | exact notInt_sl UndC.eq | exact notInt_st UndC.eq); exact rfl; (focus ((repeat constructor); done)))
    · exact adds_blk .head rfl rfl
    · (omega)
    intro tv2
    (first | refine WL.slOwn (v := tv2) (by repeat constructor) ?_ | refine WC.slOwn (v := tv2) (by repeat constructor) ?_)
    intro hc_tv2 ho_tv2
    rw [List.append_nil, es_st g ps b9, es_sm g ps b9, es_succ g ps b9]
    repeat first
      | (apply WL.q; exact rfl; exact rfl; exact rfl; (first | (apply EvW.move; exact rfl) | (apply EvW.assign; exact rfl) | (apply EvW.nilPtr; exact rfl) | (apply EvW.fieldAddr0; exact rfl; exact FldC.eq) | (apply EvW.arN; exact rfl; exact rfl; exact rfl; refine i64_in ?_ ?_ <;> omega)))
      | refine WC.region ?_ | refine WL.nil ?_ | refine WE.next ?_ | refine WE.out ?_ | (apply WL.store; exact rfl; exact rfl; (first | assumption | exact rfl); exact SzC.eq; (first | assumption | exact rfl); (focus ((repeat constructor); done)))
    refine WE.pack (L := [.blk b9 #[i64 ((ps.length : Nat) : Int), i64 g.age, i64 (-1), (.slice none 0 0)] 106, .own 3 1 (.slice none 0 0) 0 [], .own 3 1 (.slice none 0 0) 0 [], .own 3 1 (.slice none 0 0) 0 [], .own 3 1 (.slice none 0 0) 0 [], .own 3 1 (.slice none 0 0) 0 []]) (by repeat constructor) ?_
    refine WE.back (z := earH (newE g ps.length b9)) (by repeat constructor) (take_map_last earH _ (esOf g ps)) ?_
    rw [← esOf_snoc]
    exact WE.again (s := (ps.length, rv, sv, tv, ps)) ((ps.length + 1, rv2, sv2, tv2, ps ++ [b9])) ⟨by simp only []; omega, by simp⟩ (by (focus ((repeat (first | exact trivial | (refine ⟨rfl, ?_⟩))); done))) (fun _ h => (by (try simp only []); exact h.keep (by repeat constructor))) (by (try simp only []); omega)
  · have hl4 : ps.length = 4 := by omega
    repeat first
      | (apply WL.q; exact rfl; exact rfl; exact rfl; (first | (apply EvW.move; exact rfl) | (apply EvW.assign; exact rfl) | (apply EvW.cmpF; exact rfl; exact rfl; exact rfl; omega)))
      | refine WC.seq ?_ | refine WC.region ?_ | refine WL.nil ?_ | refine WE.next ?_ | refine WC.exit ?_ | refine WE.pass ?_ | refine WE.hit ?_ | refine WC.condF rfl ?_ | refine WC.ret ?_
    refine WE.pack (L := [.blk mb #[(g).vS, (g).vJ, (g).vG, (g).vC, (g).vR, i64 (g).age, i64 (g).brake, i64 (g).hold, i64 (g).budget, rv, sv, tv] 102, .own 103 1 (rv) ((esOf g ps)).length (((esOf g ps)).map rPtr), .own 54 4 (sv) ((esOf g ps)).length (((esOf g ps)).flatMap rSt), .own 3 1 (tv) ((esOf g ps)).length (((esOf g ps)).flatMap rSm), sepL ((esOf g ps).map earH)]) (by repeat constructor) ?_
    refine WE.keep (xs := [rimgH g ⟨mb, rv, sv, tv, esOf g ps⟩]) (by repeat constructor) ?_
    refine WE.ret1 rfl rfl ?_
    exact ⟨⟨mb, rv, sv, tv, esOf g ps⟩, rfl, ⟨ps, hl4, rfl⟩, rfl⟩
end Go.Proofs.Ytamofjpadnnppaa
namespace Go.Proofs.Ytamofjpadnnppaa
open Go.RowKit Go.BK
def REar.with (e : REar) (rc : Rcv) (v : Value) (ns : List Int) : REar := { e with rc := rc, v := v, ns := ns }
def REar.got (e : REar) (t : Rcv × List UInt8 × Int) (k : Int) (z : Got) (sv v : Value) (ns : List Int) : REar := if t.2.2 ≠ 0 then e.with t.1 v ns else if k = 0 then { e with rc := t.1, v := v, ns := ns, sd := Q4.of sv z, stamp := t.1.last } else e.with t.1 v ns
def RImg.took (x : RImg) (oc : Int) (t : Rcv × List UInt8 × Int) (k : Int) (z : Got) (sv v : Value) (ns : List Int) : RImg := if 0 ≤ oc ∧ oc < 4 then { x with es := x.es.set oc.toNat (((x.es.getD oc.toNat default)).got t k z sv v ns) } else x
structure RImg.Ok (x : RImg) : Prop where
  len : x.es.length = 4
  few : ∀ k, k < 4 → ((x.es.getD k default)).sd.Few
theorem ear_seen {e : REar} {w : World} {S : BSet} (h : Sees w S (earH e)) (hf : e.sd.Few) : e.Seen w S :=
  ⟨h.part .head, (h.part (.tail .head)).own, ⟨(h.part (.tail (.tail .head))).own, (h.part (.tail (.tail (.tail .head)))).own, (h.part (.tail (.tail (.tail (.tail .head))))).own, (h.part (.tail (.tail (.tail (.tail (.tail .head)))))).own, hf.a, hf.b, hf.y, hf.d⟩⟩
theorem sm_flat (l : List REar) : l.flatMap rSm = (l.map REar.stamp).map i64 := by
  induction l with
  | nil => rfl
  | cons a l ih => rw [List.flatMap_cons, ih]; rfl
theorem rimg_seen {c : Cfg} {x : RImg} {w : World} {S : BSet} (h : Sees w S (rimgH c x)) (hx : x.Ok) (hc : c.Seen w S) : x.Seen c w S := by
  refine ⟨h.part .head, hc, ?_, ?_, ?_, hx.len, fun k hk => ?_⟩
  · have := (h.part (.tail .head)).own; rw [hx.len] at this; exact this
  · have := (h.part (.tail (.tail .head))).own; rw [hx.len] at this; exact this
  · have := (h.part (.tail (.tail (.tail .head)))).own; rw [sm_flat] at this; rw [RImg.sts_len]; exact this
  · have hv : Sees w S (sepL (x.es.map earH)) := h.part (.tail (.tail (.tail (.tail .head))))
    exact ear_seen (hv.part (take_at (take_map_at (by rw [hx.len]; exact hk)))) (hx.few k hk)
theorem rptr_set {x : RImg} {i : Nat} {v : REar} (h : i < x.es.length) (hb : v.r = ((x.es.getD i default)).r) : (x.es.set i v).map rPtr = x.es.map rPtr := by
  rw [List.map_set]
  apply List.ext_getElem?
  intro j
  rw [List.getElem?_set]
  split
  · rename_i e
    subst e
    rw [if_pos (by rw [List.length_map]; exact h), List.getElem?_map, getD_some (d := default) h]
    show some (ptr v.r 0) = some (ptr ((x.es.getD i default)).r 0)
    rw [hb]
  · rfl
theorem flat_set_same {α : Type} {f : α → List Value} {v : α} {d : α} : ∀ {l : List α} {i : Nat}, i < l.length → f v = f (l.getD i d) → (l.set i v).flatMap f = l.flatMap f
  | [], _, h, _ => by simp at h
  | a :: l, 0, _, e => by
    show f v ++ l.flatMap f = f a ++ l.flatMap f
    rw [e]; rfl
  | a :: l, i + 1, h, e => by
    show f a ++ (l.set i v).flatMap f = f a ++ l.flatMap f
    rw [flat_set_same (Nat.lt_of_succ_lt_succ h) e]
set_option maxHeartbeats 1000000 in
theorem rtakeI_spec (g : Cfg) (x : RImg) (now oc : Int) (l : List UInt8) (y : Said) (e k : Int) (z : Got) (t : Rcv × List UInt8 × Int) (ns : List Int) (w : World) (S : BSet) (hS : (sepL [rimgH g x]).sat S w) (hc : g.Seen w S) (hx : x.Ok) (hl : l.length ≤ 140737488355328) (hw : now ≤ 9223372036854775807) (hr : readF l = (y, e)) (ht : takeF ((x.es.getD oc.toNat default)).rc now (y, e) = t) (hns : numsF ((x.es.getD oc.toNat default)).rc now (y, e) ((x.es.getD oc.toNat default)).ns = ns) (hnl : ((x.es.getD oc.toNat default)).ns.length ≤ 8796093022208) (hk : 0 ≤ oc ∧ oc < 4 → RS (g.shape oc undef) t.2.1 k z) (htl : t.2.1.length ≤ 140737488355328) (hfc : (g.shape oc undef).Few) :
    Tri Try.prog 17 #[ptr x.b 0, i64 now, i64 oc, str l] w S fun u A => ∃ sv v : Value, u = i64 (tookE oc t k) ∧ A = [rimgH g (x.took oc t k z sv v ns)] := by
  refine Tri.enter (l := [ptr x.b 0, i64 now, i64 oc, str l]) Try.func17 rfl Try.ntmps17 rfl [(0, ptr x.b 0), (1, i64 now), (2, i64 oc), (3, str l)] (subA rfl) hS ?_
  refine WC.unpack (L := [.blk (x).b #[(g).vS, (g).vJ, (g).vG, (g).vC, (g).vR, i64 (g).age, i64 (g).brake, i64 (g).hold, i64 (g).budget, (x).rv, (x).sv, (x).tv] 102, .own 103 1 ((x).rv) ((x).es).length (((x).es).map rPtr), .own 54 4 ((x).sv) ((x).es).length (((x).es).flatMap rSt), .own 3 1 ((x).tv) ((x).es).length (((x).es).flatMap rSm), sepL ((x).es.map earH)]) (LR := [.blk (x).b #[(g).vS, (g).vJ, (g).vG, (g).vC, (g).vR, i64 (g).age, i64 (g).brake, i64 (g).hold, i64 (g).budget, (x).rv, (x).sv, (x).tv] 102, .own 103 1 ((x).rv) ((x).es).length (((x).es).map rPtr), .own 54 4 ((x).sv) ((x).es).length (((x).es).flatMap rSt), .own 3 1 ((x).tv) ((x).es).length (((x).es).flatMap rSm), sepL ((x).es.map earH)]) .head rfl ?_
  by_cases g0 : 0 ≤ oc
  rotate_left
  · skip
    repeat first
      | (apply WL.q; exact rfl; exact rfl; exact rfl; (first | (apply EvW.move; exact rfl) | (apply EvW.assign; exact rfl) | (apply EvW.cmpT; exact rfl; exact rfl; exact rfl; omega) | (apply EvW.pickT; exact rfl; exact rfl)))
      | refine WC.seq ?_ | refine WC.region ?_ | refine WL.nil ?_ | refine WE.next ?_ | refine WC.condT rfl ?_ | refine WC.ret ?_ | refine WE.passRet ?_ | refine WL.unwanted rfl rfl rfl rfl ?_
    refine WE.pack (L := [.blk (x).b #[(g).vS, (g).vJ, (g).vG, (g).vC, (g).vR, i64 (g).age, i64 (g).brake, i64 (g).hold, i64 (g).budget, (x).rv, (x).sv, (x).tv] 102, .own 103 1 ((x).rv) ((x).es).length (((x).es).map rPtr), .own 54 4 ((x).sv) ((x).es).length (((x).es).flatMap rSt), .own 3 1 ((x).tv) ((x).es).length (((x).es).flatMap rSm), sepL ((x).es.map earH)]) (by repeat constructor) ?_
    refine WE.keep (xs := [rimgH g x]) (by repeat constructor) ?_
    refine WE.ret1 rfl rfl ?_
    exact ⟨undef, undef, by unfold tookE; rw [if_neg (fun h => g0 h.1)], by unfold RImg.took; rw [if_neg (fun h => g0 h.1)]⟩
  by_cases g4 : oc < (4 : Nat)
  rotate_left
  · skip
    repeat first
      | (apply WL.q; exact rfl; exact rfl; exact rfl; (first | (apply EvW.move; exact rfl) | (apply EvW.assign; exact rfl) | (apply EvW.cmpT; exact rfl; exact rfl; exact rfl; omega) | (apply EvW.cmpF; exact rfl; exact rfl; exact rfl; omega) | (apply EvW.pickF; exact rfl; exact rfl)))
      | refine WC.seq ?_ | refine WC.region ?_ | refine WL.nil ?_ | refine WE.next ?_ | refine WC.condT rfl ?_ | refine WC.ret ?_ | refine WE.passRet ?_ | refine WL.wanted rfl rfl rfl ?_
    refine WE.pack (L := [.blk (x).b #[(g).vS, (g).vJ, (g).vG, (g).vC, (g).vR, i64 (g).age, i64 (g).brake, i64 (g).hold, i64 (g).budget, (x).rv, (x).sv, (x).tv] 102, .own 103 1 ((x).rv) ((x).es).length (((x).es).map rPtr), .own 54 4 ((x).sv) ((x).es).length (((x).es).flatMap rSt), .own 3 1 ((x).tv) ((x).es).length (((x).es).flatMap rSm), sepL ((x).es.map earH)]) (by repeat constructor) ?_
    refine WE.keep (xs := [rimgH g x]) (by repeat constructor) ?_
    refine WE.ret1 rfl rfl ?_
    exact ⟨undef, undef, by unfold tookE; rw [if_neg (fun h => g4 h.2)], by unfold RImg.took; rw [if_neg (fun h => g4 h.2)]⟩
  replace hk := hk ⟨g0, g4⟩
  have hlt : oc.toNat < x.es.length := by rw [hx.len]; omega
  have hocl : oc < x.es.length := by rw [hx.len]; omega
  have hat : (x.es.map rPtr)[oc.toNat * 1 + 0]? = some (ptr ((x.es.getD oc.toNat default)).r 0) := by
    rw [Nat.mul_one, Nat.add_zero, List.getElem?_map, getD_some (d := default) hlt]; rfl
  have hout : (x.es.map earH)[oc.toNat]? = some (earH ((x.es.getD oc.toNat default))) := take_map_at hlt
  have hfew := hx.few oc.toNat (by omega)
  obtain ⟨v, hv⟩ : ∃ v, (x.es.getD oc.toNat default) = v := ⟨_, rfl⟩
  rw [hv] at hat hout hfew ht hns hnl
  repeat first
    | (apply WL.q; exact rfl; exact rfl; exact rfl; (first | (apply EvW.move; exact rfl) | (apply EvW.assign; exact rfl) | (apply EvW.nilPtr; exact rfl) | (apply EvW.fieldAddr0; exact rfl; exact FldC.eq) | (apply EvW.load; exact rfl; exact ScalC.eq; (focus ((repeat constructor); done)); exact rfl) | (apply EvW.cmpF; exact rfl; exact rfl; exact rfl; omega) | (apply EvW.pickF; exact rfl; exact rfl) | (apply EvW.idxOwn; exact rfl; exact rfl; exact UndC.eq; exact SzC.eq; (focus ((repeat constructor); done)); omega; omega)))
    | refine WC.seq ?_ | refine WC.region ?_ | refine WL.nil ?_ | refine WE.next ?_ | refine WC.skip ?_ | refine WC.condF rfl ?_ | refine WL.wanted rfl rfl rfl ?_
  try refine WL.wanted rfl rfl rfl ?_
  (apply WL.q; exact rfl; exact rfl; exact rfl; (apply EvW.ldOwn (i := oc.toNat) (off := 0) (q := ptr v.r 0); exact rfl; exact ScalC.eq; (focus ((repeat constructor); done)); exact hat))
  refine WL.out (by repeat constructor) (take_at hout) ?_
  refine WL.unpack (L := [.blk v.r #[i64 (v.rc).peer, i64 (v.rc).age, i64 (v.rc).last, v.v] 106, .own 3 1 (v.v) (v.ns).length ((v.ns).map i64), .own 3 1 ((v.sd).a) ((v.sd).la).length (((v.sd).la).map i64), .own 3 1 ((v.sd).b) ((v.sd).lb).length (((v.sd).lb).map i64), .own 3 1 ((v.sd).y) ((v.sd).ly).length (((v.sd).ly).map i64), .own 3 1 ((v.sd).d) ((v.sd).ld).length (((v.sd).ld).map i64)]) (LR := [.blk v.r #[i64 (v.rc).peer, i64 (v.rc).age, i64 (v.rc).last, v.v] 106, .own 3 1 (v.v) (v.ns).length ((v.ns).map i64), .own 3 1 ((v.sd).a) ((v.sd).la).length (((v.sd).la).map i64), .own 3 1 ((v.sd).b) ((v.sd).lb).length (((v.sd).lb).map i64), .own 3 1 ((v.sd).y) ((v.sd).ly).length (((v.sd).ly).map i64), .own 3 1 ((v.sd).d) ((v.sd).ld).length (((v.sd).ld).map i64), sepL (((x).es.map earH).eraseIdx oc.toNat), .blk (x).b #[(g).vS, (g).vJ, (g).vG, (g).vC, (g).vR, i64 (g).age, i64 (g).brake, i64 (g).hold, i64 (g).budget, (x).rv, (x).sv, (x).tv] 102, .own 103 1 (x.rv) (x.es).length ((x.es).map rPtr), .own 54 4 (x.sv) (x.es).length ((x.es).flatMap rSt), .own 3 1 (x.tv) (x.es).length ((x.es).flatMap rSm)]) .head rfl ?_
  repeat first
    | (apply WL.q; exact rfl; exact rfl; exact rfl; (first | (apply EvW.move; exact rfl)))
  try refine WL.wanted rfl rfl rfl ?_
  apply WL.callA ([.blk v.r #[i64 (v.rc).peer, i64 (v.rc).age, i64 (v.rc).last, v.v] 106, .own 3 1 (v.v) (v.ns).length ((v.ns).map i64)])
  · exact rfl
  · exact rfl
  · exact fun w => Try.call48 _ w
  · (focus ((repeat constructor); done))
  · exact fun w1 S1 hS1 hs1 ho1 => rtake_spec v.r v.v v.rc v.ns now l y e w1 S1 hS1 hl hw hnl hr
  rintro _ _ ⟨rfl, nv, rfl⟩
  first | refine WL.app4 ?_ | refine WL.app3 ?_ | refine WL.app2 ?_ | refine WL.app1 ?_ | refine WL.app0 ?_ | skip
  rw [ht, hns]
  obtain ⟨rc, p, te⟩ := t
  dsimp only at hk htl ⊢
  by_cases hte : te = 0
  rotate_left
  · skip
    repeat first
      | (apply WL.q; exact rfl; exact rfl; exact rfl; (first | (apply EvW.move; exact rfl) | (apply EvW.assign; exact rfl) | (apply EvW.extract; exact rfl; exact rfl) | (apply EvW.cmpT; exact rfl; exact rfl; exact rfl; omega)))
      | refine WC.seq ?_ | refine WC.region ?_ | refine WL.nil ?_ | refine WE.next ?_ | refine WC.condT rfl ?_ | refine WC.ret ?_ | refine WE.passRet ?_
    refine WE.pack (L := [.blk v.r #[i64 (rc).peer, i64 (rc).age, i64 (rc).last, nv] 106, .own 3 1 (nv) (ns).length ((ns).map i64), .own 3 1 ((v.sd).a) ((v.sd).la).length (((v.sd).la).map i64), .own 3 1 ((v.sd).b) ((v.sd).lb).length (((v.sd).lb).map i64), .own 3 1 ((v.sd).y) ((v.sd).ly).length (((v.sd).ly).map i64), .own 3 1 ((v.sd).d) ((v.sd).ld).length (((v.sd).ld).map i64)]) (by repeat constructor) ?_
    refine WE.back (L := (x.es.set oc.toNat (v.with rc nv ns)).map earH) (z := earH (v.with rc nv ns)) (by repeat constructor) (take_map_set _ hlt) ?_
    have e1 : (x.es.set oc.toNat (v.with rc nv ns)).map rPtr = x.es.map rPtr := rptr_set hlt (by rw [hv]; rfl)
    have e2 : (x.es.set oc.toNat (v.with rc nv ns)).flatMap rSt = x.es.flatMap rSt := flat_set_same (d := default) hlt (by rw [hv]; rfl)
    have e3 : (x.es.set oc.toNat (v.with rc nv ns)).flatMap rSm = x.es.flatMap rSm := flat_set_same (d := default) hlt (by rw [hv]; rfl)
    have e4 : (x.es.set oc.toNat (v.with rc nv ns)).length = x.es.length := List.length_set
    rw [← e1, ← e2, ← e3, ← e4]
    refine WE.pack (L := [.blk (x).b #[(g).vS, (g).vJ, (g).vG, (g).vC, (g).vR, i64 (g).age, i64 (g).brake, i64 (g).hold, i64 (g).budget, (x).rv, (x).sv, (x).tv] 102, .own 103 1 (x.rv) ((x.es.set oc.toNat (v.with rc nv ns))).length (((x.es.set oc.toNat (v.with rc nv ns))).map rPtr), .own 54 4 (x.sv) ((x.es.set oc.toNat (v.with rc nv ns))).length (((x.es.set oc.toNat (v.with rc nv ns))).flatMap rSt), .own 3 1 (x.tv) ((x.es.set oc.toNat (v.with rc nv ns))).length (((x.es.set oc.toNat (v.with rc nv ns))).flatMap rSm), sepL ((x.es.set oc.toNat (v.with rc nv ns)).map earH)]) (by repeat constructor) ?_
    refine WE.keep (xs := [rimgH g { x with es := x.es.set oc.toNat (v.with rc nv ns) }]) (by repeat constructor) ?_
    refine WE.ret1 rfl rfl ?_
    refine ⟨undef, nv, ?_, ?_⟩
    · unfold tookE; rw [if_pos ⟨g0, g4⟩]; rw [if_pos hte]
    · unfold RImg.took; rw [if_pos ⟨g0, g4⟩, hv]; unfold REar.got; rw [if_pos hte]
  subst hte
  repeat first
    | (apply WL.q; exact rfl; exact rfl; exact rfl; (first | (apply EvW.move; exact rfl) | (apply EvW.assign; exact rfl) | (apply EvW.nilPtr; exact rfl) | (apply EvW.fieldAddr0; exact rfl; exact FldC.eq) | (apply EvW.extract; exact rfl; exact rfl) | (apply EvW.cmpF; exact rfl; exact rfl; exact rfl; omega) | (apply EvW.loadAgg; exact rfl; exact AggC.eq; exact SzC.eq; (focus ((repeat constructor); done)); (focus ((repeat (first | exact SubL.nil | apply SubL.cons | apply SubL.succ)); done)))))
    | refine WC.seq ?_ | refine WC.region ?_ | refine WL.nil ?_ | refine WE.next ?_ | refine WC.skip ?_ | refine WC.condF rfl ?_
  try refine WL.wanted rfl rfl rfl ?_
  apply WL.callA ([])
  · exact rfl
  · exact rfl
  · exact fun w => Try.call12 _ w
  · (focus ((repeat constructor); done))
  · exact fun w1 S1 hS1 hs1 ho1 => rshape_spec g oc w1 S1 hS1 (hc.down hs1)
  rintro _ _ ⟨x1, x2, x3, x4, rfl, rfl⟩
  first | refine WL.app4 ?_ | refine WL.app3 ?_ | refine WL.app2 ?_ | refine WL.app1 ?_ | refine WL.app0 ?_ | skip
  repeat first
    | (apply WL.q; exact rfl; exact rfl; exact rfl; (first | (apply EvW.move; exact rfl)))
  try refine WL.wanted rfl rfl rfl ?_
  apply WL.callA ([])
  · exact rfl
  · exact rfl
  · exact fun w => Try.call38 _ w
  · (focus ((repeat constructor); done))
  · exact fun w1 S1 hS1 hs1 ho1 => rrs_spec (Q4.mk x1 x2 x3 x4 (g.lS oc) (g.lP oc) (g.lC oc) (g.lG oc)) p k z w1 S1 hS1 ⟨(ho1 (.own 3 1 (x1) (g.lS oc).length ((g.lS oc).map i64)) _ (by repeat constructor)).own, (ho1 (.own 3 1 (x2) (g.lP oc).length ((g.lP oc).map i64)) _ (by repeat constructor)).own, (ho1 (.own 3 1 (x3) (g.lC oc).length ((g.lC oc).map i64)) _ (by repeat constructor)).own, (ho1 (.own 3 1 (x4) (g.lG oc).length ((g.lG oc).map i64)) _ (by repeat constructor)).own, hfc.a, hfc.b, hfc.y, hfc.d⟩ htl hk
  rintro _ _ ⟨a, b, y2, d, rfl, rfl⟩
  first | refine WL.app4 ?_ | refine WL.app3 ?_ | refine WL.app2 ?_ | refine WL.app1 ?_ | refine WL.app0 ?_ | skip
  repeat first
    | (apply WL.q; exact rfl; exact rfl; exact rfl; (first | (apply EvW.move; exact rfl) | (apply EvW.extract; exact rfl; exact rfl)))
  try refine WL.wanted rfl rfl rfl ?_
  (apply WL.alloc; exact rfl; exact ZvC.eq; exact rfl; intro q)
  (first | refine WL.slOwn (v := a) (by repeat constructor) ?_ | refine WC.slOwn (v := a) (by repeat constructor) ?_)
  intro hc_a ho_a
  (first | refine WL.slOwn (v := b) (by repeat constructor) ?_ | refine WC.slOwn (v := b) (by repeat constructor) ?_)
  intro hc_b ho_b
  (first | refine WL.slOwn (v := y2) (by repeat constructor) ?_ | refine WC.slOwn (v := y2) (by repeat constructor) ?_)
  intro hc_y2 ho_y2
  (first | refine WL.slOwn (v := d) (by repeat constructor) ?_ | refine WC.slOwn (v := d) (by repeat constructor) ?_)
  intro hc_d ho_d
  have hall : ([a, b, y2, d] : List Value).all (·.oneCell') = true := by
    simp at ho_a ho_b ho_y2 ho_d
    simp [ho_a, ho_b, ho_y2, ho_d]
  clear hc_a hc_b hc_y2 hc_d ho_a ho_b ho_y2 ho_d
  by_cases hk0 : k = 0
  rotate_left
  · skip
    have hk3 : k = 3 := by
      rcases hk with ⟨_, h, _⟩ | ⟨_, h, _⟩
      · exact absurd h hk0
      · exact h
    repeat first
      | (apply WL.q; exact rfl; exact rfl; exact rfl; (first | (apply EvW.move; exact rfl) | (apply EvW.assign; exact rfl) | (apply EvW.cmpT; exact rfl; exact rfl; exact rfl; omega)))
      | refine WC.seq ?_ | refine WC.region ?_ | refine WL.nil ?_ | refine WE.next ?_ | refine WC.condT rfl ?_ | refine WC.ret ?_ | refine WE.passRet ?_ | (apply WL.store; exact rfl; exact rfl; (first | assumption | exact rfl); exact SzC.eq; (first | assumption | exact rfl); (focus ((repeat constructor); done)))
    refine WE.pack (L := [.blk v.r #[i64 (rc).peer, i64 (rc).age, i64 (rc).last, nv] 106, .own 3 1 (nv) (ns).length ((ns).map i64), .own 3 1 ((v.sd).a) ((v.sd).la).length (((v.sd).la).map i64), .own 3 1 ((v.sd).b) ((v.sd).lb).length (((v.sd).lb).map i64), .own 3 1 ((v.sd).y) ((v.sd).ly).length (((v.sd).ly).map i64), .own 3 1 ((v.sd).d) ((v.sd).ld).length (((v.sd).ld).map i64)]) (by repeat constructor) ?_
    refine WE.back (L := (x.es.set oc.toNat (v.with rc nv ns)).map earH) (z := earH (v.with rc nv ns)) (by repeat constructor) (take_map_set _ hlt) ?_
    have e1 : (x.es.set oc.toNat (v.with rc nv ns)).map rPtr = x.es.map rPtr := rptr_set hlt (by rw [hv]; rfl)
    have e2 : (x.es.set oc.toNat (v.with rc nv ns)).flatMap rSt = x.es.flatMap rSt := flat_set_same (d := default) hlt (by rw [hv]; rfl)
    have e3 : (x.es.set oc.toNat (v.with rc nv ns)).flatMap rSm = x.es.flatMap rSm := flat_set_same (d := default) hlt (by rw [hv]; rfl)
    have e4 : (x.es.set oc.toNat (v.with rc nv ns)).length = x.es.length := List.length_set
    rw [← e1, ← e2, ← e3, ← e4]
    refine WE.pack (L := [.blk (x).b #[(g).vS, (g).vJ, (g).vG, (g).vC, (g).vR, i64 (g).age, i64 (g).brake, i64 (g).hold, i64 (g).budget, (x).rv, (x).sv, (x).tv] 102, .own 103 1 (x.rv) ((x.es.set oc.toNat (v.with rc nv ns))).length (((x.es.set oc.toNat (v.with rc nv ns))).map rPtr), .own 54 4 (x.sv) ((x.es.set oc.toNat (v.with rc nv ns))).length (((x.es.set oc.toNat (v.with rc nv ns))).flatMap rSt), .own 3 1 (x.tv) ((x.es.set oc.toNat (v.with rc nv ns))).length (((x.es.set oc.toNat (v.with rc nv ns))).flatMap rSm), sepL ((x.es.set oc.toNat (v.with rc nv ns)).map earH)]) (by repeat constructor) ?_
    refine WE.keep (xs := [rimgH g { x with es := x.es.set oc.toNat (v.with rc nv ns) }]) (by repeat constructor) ?_
    refine WE.ret1 rfl rfl ?_
    refine ⟨undef, nv, ?_, ?_⟩
    · unfold tookE; rw [if_pos ⟨g0, g4⟩]; rw [if_neg (fun h => h rfl), hk3]
    · unfold RImg.took; rw [if_pos ⟨g0, g4⟩, hv]; unfold REar.got; rw [if_neg (fun h => h rfl), if_neg hk0]
  subst hk0
  obtain ⟨e1, he1⟩ : ∃ e1 : REar, e1 = { v with rc := rc, v := nv, ns := ns, sd := Q4.mk a b y2 d z.1 z.2.1 z.2.2.1 z.2.2.2, stamp := rc.last } := ⟨_, rfl⟩
  have hx1 : (x.es.set oc.toNat e1).length = x.es.length := List.length_set
  have hp1 : (x.es.set oc.toNat e1).map rPtr = x.es.map rPtr := rptr_set hlt (by rw [hv, he1])
  repeat first
    | (apply WL.q; exact rfl; exact rfl; exact rfl; (first | (apply EvW.move; exact rfl) | (apply EvW.assign; exact rfl) | (apply EvW.cmpF; exact rfl; exact rfl; exact rfl; omega)))
    | refine WC.seq ?_ | refine WC.region ?_ | refine WL.nil ?_ | refine WE.next ?_ | refine WC.skip ?_ | refine WC.condF rfl ?_ | (apply WL.store; exact rfl; exact rfl; (first | assumption | exact rfl); exact SzC.eq; (first | assumption | exact rfl); (focus ((repeat constructor); done)))
  repeat refine WC.seq ?_
  refine WC.keep (xs := [.blk (x).b #[(g).vS, (g).vJ, (g).vG, (g).vC, (g).vR, i64 (g).age, i64 (g).brake, i64 (g).hold, i64 (g).budget, (x).rv, (x).sv, (x).tv] 102, .own 54 4 (x.sv) (x.es).length ((x.es).flatMap rSt), .own 103 1 (x.rv) (x.es).length ((x.es).map rPtr), .own 3 1 (x.tv) (x.es).length ((x.es).flatMap rSm), .blk v.r #[i64 (rc).peer, i64 (rc).age, i64 (rc).last, nv] 106, .own 3 1 (nv) (ns).length ((ns).map i64), .own 3 1 ((v.sd).a) ((v.sd).la).length (((v.sd).la).map i64), .own 3 1 ((v.sd).b) ((v.sd).lb).length (((v.sd).lb).map i64), .own 3 1 ((v.sd).y) ((v.sd).ly).length (((v.sd).ly).map i64), .own 3 1 ((v.sd).d) ((v.sd).ld).length (((v.sd).ld).map i64), sepL (((x).es.map earH).eraseIdx oc.toNat), .blk q #[a, b, y2, d] 54, .own 3 1 (a) (z.1).length ((z.1).map i64), .own 3 1 (b) (z.2.1).length ((z.2.1).map i64), .own 3 1 (y2) (z.2.2.1).length ((z.2.2.1).map i64), .own 3 1 (d) (z.2.2.2).length ((z.2.2.2).map i64)]) (by repeat constructor) ?_
  apply WC.par _ (fun c : Ch => [.blk (x).b #[(g).vS, (g).vJ, (g).vG, (g).vC, (g).vR, i64 (g).age, i64 (g).brake, i64 (g).hold, i64 (g).budget, (x).rv, (x).sv, (x).tv] 102, .own 54 4 (x.sv) (x.es).length ((x.es).flatMap rSt), .own 54 4 x.sv x.es.length ((x.es.set oc.toNat e1).flatMap rSt), .own 103 1 (x.rv) (x.es).length ((x.es).map rPtr), .own 3 1 (x.tv) (x.es).length ((x.es).flatMap rSm), .blk v.r #[i64 (rc).peer, i64 (rc).age, i64 (rc).last, nv] 106, .own 3 1 (nv) (ns).length ((ns).map i64), .own 3 1 ((v.sd).a) ((v.sd).la).length (((v.sd).la).map i64), .own 3 1 ((v.sd).b) ((v.sd).lb).length (((v.sd).lb).map i64), .own 3 1 ((v.sd).y) ((v.sd).ly).length (((v.sd).ly).map i64), .own 3 1 ((v.sd).d) ((v.sd).ld).length (((v.sd).ld).map i64), sepL (((x).es.map earH).eraseIdx oc.toNat), .blk q #[a, b, y2, d] 54, .own 3 1 (a) (z.1).length ((z.1).map i64), .own 3 1 (b) (z.2.1).length ((z.2.1).map i64), .own 3 1 (y2) (z.2.2.1).length ((z.2.2.1).map i64), .own 3 1 (d) (z.2.2.2).length ((z.2.2.2).map i64)]) [none, none, some 7, none, none, none, none, none, none, none, none, none, none, none, none, none, none] [none, some 7, none, none, none, none, none, none, none, none, none, none, none, none, none, none, none] [] Try.mixed
  · (focus ((repeat (first | exact Restr.nil | (apply Restr.keep; exact rfl; exact rfl) | (apply Restr.drop; exact rfl))); done))
  · intro c; exact (by repeat constructor)
  · exact rfl
  · decide +kernel
  · decide +kernel
  · intro c
    (apply Par.quiet _ [true, true, false, true, true, true, true, true, true, true, true, true, true, true, true, true, true]; exact rfl; decide +kernel; exact rfl; intro R; refine ⟨_, (by repeat constructor), ?_⟩;
         (first | (apply EvW.move; exact rfl)))
    (apply Par.quiet _ [true, true, false, true, true, true, true, true, true, true, true, true, true, true, true, true, true]; exact rfl; decide +kernel; exact rfl; intro R; refine ⟨_, (by repeat constructor), ?_⟩;
         (first | (apply EvW.nilPtr; exact rfl)))
    (apply Par.quiet _ [true, true, false, true, true, true, true, true, true, true, true, true, true, true, true, true, true]; exact rfl; decide +kernel; exact rfl; intro R; refine ⟨_, (by repeat constructor), ?_⟩;
         (first | (apply EvW.fieldAddr0; exact rfl; exact FldC.eq)))
    (apply Par.quiet _ [true, true, false, true, true, true, true, true, true, true, true, true, true, true, true, true, true]; exact rfl; decide +kernel; exact rfl; intro R; refine ⟨_, (by repeat constructor), ?_⟩;
         (first | (apply EvW.load; exact rfl; exact ScalC.eq; (focus ((repeat constructor); done)); exact rfl)))
    (apply Par.quiet _ [true, true, false, true, true, true, true, true, true, true, true, true, true, true, true, true, true]; exact rfl; decide +kernel; exact rfl; intro R; refine ⟨_, (by repeat constructor), ?_⟩;
         (first | (apply EvW.move; exact rfl)))
    (apply Par.quiet _ [true, true, false, true, true, true, true, true, true, true, true, true, true, true, true, true, true]; exact rfl; decide +kernel; exact rfl; intro R; refine ⟨_, (by repeat constructor), ?_⟩;
         (first | (apply EvW.loadAgg; exact rfl; exact AggC.eq; exact SzC.eq; (focus ((repeat constructor); done)); (focus ((repeat (first | exact SubL.nil | apply SubL.cons | apply SubL.succ)); done)))))
    (apply Par.quiet _ [true, true, false, true, true, true, true, true, true, true, true, true, true, true, true, true, true]; exact rfl; decide +kernel; exact rfl; intro R; refine ⟨_, (by repeat constructor), ?_⟩;
         (first | (apply EvW.idxOwn; exact rfl; exact rfl; exact UndC.eq; exact SzC.eq; (focus ((repeat constructor); done)); omega; omega)))
    apply Par.eff _ [false, true, false, false, false, false, false, false, false, false, false, false, false, false, false, false, false] [false, false, true, false, false, false, false, false, false, false, false, false, false, false, false, false, false] [true, false, false, true, true, true, true, true, true, true, true, true, true, true, true, true, true]
    · exact rfl
    · exact rfl
    · decide +kernel
    · intro R
      refine ⟨_, _, _, (by repeat constructor), (by repeat constructor), (by repeat constructor), ?_⟩
      (apply EffW.stFld (e1); exact rfl; exact rfl; exact rfl; exact SzC.eq; assumption; exact rfl; (focus ((repeat constructor); done)); exact fun _ => rfl; exact hlt; (rw [he1]; exact rfl); exact rfl; exact Take.head)
    exact Par.nil
  · repeat (first | exact AllN.nil | (apply AllN.cons; (intro c x; (repeat (first | exact IndA.nil | (apply IndA.skip; decide +kernel) | apply IndA.same))))) 
  · repeat (first | exact AllN.nil | (apply AllN.cons; (intro c x; (repeat (first | exact IndT.nil | (apply IndT.skip; decide +kernel) | apply IndT.same))))) 
  · exact fun _ => rfl
  intro c
  refine ⟨_, (by repeat constructor), ?_⟩
  apply WE.writ
  · (focus ((repeat (first | exact Writ.nil | apply Writ.some | apply Writ.none)); done))
  repeat first
    | refine WC.seq ?_ | refine WE.next ?_
  repeat refine WC.seq ?_
  refine WC.keep (xs := [.blk (x).b #[(g).vS, (g).vJ, (g).vG, (g).vC, (g).vR, i64 (g).age, i64 (g).brake, i64 (g).hold, i64 (g).budget, (x).rv, (x).sv, (x).tv] 102, .own 54 4 x.sv x.es.length ((x.es.set oc.toNat e1).flatMap rSt), .own 103 1 (x.rv) (x.es).length ((x.es).map rPtr), .own 3 1 (x.tv) (x.es).length ((x.es).flatMap rSm), .blk v.r #[i64 (rc).peer, i64 (rc).age, i64 (rc).last, nv] 106, .own 3 1 (nv) (ns).length ((ns).map i64), .own 3 1 ((v.sd).a) ((v.sd).la).length (((v.sd).la).map i64), .own 3 1 ((v.sd).b) ((v.sd).lb).length (((v.sd).lb).map i64), .own 3 1 ((v.sd).y) ((v.sd).ly).length (((v.sd).ly).map i64), .own 3 1 ((v.sd).d) ((v.sd).ld).length (((v.sd).ld).map i64), sepL (((x).es.map earH).eraseIdx oc.toNat), .blk q #[a, b, y2, d] 54, .own 3 1 (a) (z.1).length ((z.1).map i64), .own 3 1 (b) (z.2.1).length ((z.2.1).map i64), .own 3 1 (y2) (z.2.2.1).length ((z.2.2.1).map i64), .own 3 1 (d) (z.2.2.2).length ((z.2.2.2).map i64)]) (by repeat constructor) ?_
  apply WC.par _ (fun c : Ch => [.blk (x).b #[(g).vS, (g).vJ, (g).vG, (g).vC, (g).vR, i64 (g).age, i64 (g).brake, i64 (g).hold, i64 (g).budget, (x).rv, (x).sv, (x).tv] 102, .own 54 4 x.sv x.es.length ((x.es.set oc.toNat e1).flatMap rSt), .own 103 1 (x.rv) (x.es).length ((x.es).map rPtr), .own 3 1 (x.tv) (x.es).length ((x.es).flatMap rSm), .own 3 1 x.tv x.es.length ((x.es.set oc.toNat e1).flatMap rSm), .blk v.r #[i64 (rc).peer, i64 (rc).age, i64 (rc).last, nv] 106, .own 3 1 (nv) (ns).length ((ns).map i64), .own 3 1 ((v.sd).a) ((v.sd).la).length (((v.sd).la).map i64), .own 3 1 ((v.sd).b) ((v.sd).lb).length (((v.sd).lb).map i64), .own 3 1 ((v.sd).y) ((v.sd).ly).length (((v.sd).ly).map i64), .own 3 1 ((v.sd).d) ((v.sd).ld).length (((v.sd).ld).map i64), sepL (((x).es.map earH).eraseIdx oc.toNat), .blk q #[a, b, y2, d] 54, .own 3 1 (a) (z.1).length ((z.1).map i64), .own 3 1 (b) (z.2.1).length ((z.2.1).map i64), .own 3 1 (y2) (z.2.2.1).length ((z.2.2.1).map i64), .own 3 1 (d) (z.2.2.2).length ((z.2.2.2).map i64)]) [none, none, none, none, some 16, none, none, none, none, none, none, none, none, none, none, none, none] [none, none, none, some 16, none, none, none, none, none, none, none, none, none, none, none, none, none] [] Try.mixed
  · (focus ((repeat (first | exact Restr.nil | (apply Restr.keep; exact rfl; exact rfl) | (apply Restr.drop; exact rfl))); done))
  · intro c; exact (by repeat constructor)
  · exact rfl
  · decide +kernel
  · decide +kernel
  · intro c
    (apply Par.quiet _ [true, true, true, true, false, true, true, true, true, true, true, true, true, true, true, true, true]; exact rfl; decide +kernel; exact rfl; intro R; refine ⟨_, (by repeat constructor), ?_⟩;
         (first | (apply EvW.move; exact rfl)))
    (apply Par.quiet _ [true, true, true, true, false, true, true, true, true, true, true, true, true, true, true, true, true]; exact rfl; decide +kernel; exact rfl; intro R; refine ⟨_, (by repeat constructor), ?_⟩;
         (first | (apply EvW.nilPtr; exact rfl)))
    (apply Par.quiet _ [true, true, true, true, false, true, true, true, true, true, true, true, true, true, true, true, true]; exact rfl; decide +kernel; exact rfl; intro R; refine ⟨_, (by repeat constructor), ?_⟩;
         (first | (apply EvW.fieldAddr0; exact rfl; exact FldC.eq)))
    (apply Par.quiet _ [true, true, true, true, false, true, true, true, true, true, true, true, true, true, true, true, true]; exact rfl; decide +kernel; exact rfl; intro R; refine ⟨_, (by repeat constructor), ?_⟩;
         (first | (apply EvW.load; exact rfl; exact ScalC.eq; (focus ((repeat constructor); done)); exact rfl)))
    (apply Par.quiet _ [true, true, true, true, false, true, true, true, true, true, true, true, true, true, true, true, true]; exact rfl; decide +kernel; exact rfl; intro R; refine ⟨_, (by repeat constructor), ?_⟩;
         (first | (apply EvW.move; exact rfl)))
    (apply Par.quiet _ [true, true, true, true, false, true, true, true, true, true, true, true, true, true, true, true, true]; exact rfl; decide +kernel; exact rfl; intro R; refine ⟨_, (by repeat constructor), ?_⟩;
         (first | (apply EvW.move; exact rfl)))
    (apply Par.quiet _ [true, true, true, true, false, true, true, true, true, true, true, true, true, true, true, true, true]; exact rfl; decide +kernel; exact rfl; intro R; refine ⟨_, (by repeat constructor), ?_⟩;
         (first | (apply EvW.nilPtr; exact rfl)))
    (apply Par.quiet _ [true, true, true, true, false, true, true, true, true, true, true, true, true, true, true, true, true]; exact rfl; decide +kernel; exact rfl; intro R; refine ⟨_, (by repeat constructor), ?_⟩;
         (first | (apply EvW.fieldAddr0; exact rfl; exact FldC.eq)))
    (apply Par.quiet _ [true, true, true, true, false, true, true, true, true, true, true, true, true, true, true, true, true]; exact rfl; decide +kernel; exact rfl; intro R; refine ⟨_, (by repeat constructor), ?_⟩;
         (first | (apply EvW.load; exact rfl; exact ScalC.eq; (focus ((repeat constructor); done)); exact rfl)))
    (apply Par.quiet _ [true, true, true, true, false, true, true, true, true, true, true, true, true, true, true, true, true]; exact rfl; decide +kernel; exact rfl; intro R; refine ⟨_, (by repeat constructor), ?_⟩;
         (first | (apply EvW.move; exact rfl)))
    (apply Par.quiet _ [true, true, true, true, false, true, true, true, true, true, true, true, true, true, true, true, true]; exact rfl; decide +kernel; exact rfl; intro R; refine ⟨_, (by repeat constructor), ?_⟩;
         (first | (apply EvW.idxOwn; exact rfl; exact rfl; exact UndC.eq; exact SzC.eq; (focus ((repeat constructor); done)); omega; omega)))
    apply Par.quiet _ [true, true, true, true, false, true, true, true, true, true, true, true, true, true, true, true, true]
    · exact rfl
    · decide +kernel
    · exact rfl
    · intro R
      refine ⟨_, (by repeat constructor), ?_⟩
      (apply EvW.ldOwn (i := oc.toNat) (off := 0) (q := ptr v.r 0); exact rfl; exact ScalC.eq; (focus ((repeat constructor); done)); exact hat)
    (apply Par.quiet _ [true, true, true, true, false, true, true, true, true, true, true, true, true, true, true, true, true]; exact rfl; decide +kernel; exact rfl; intro R; refine ⟨_, (by repeat constructor), ?_⟩;
         (first | (apply EvW.nilPtr; exact rfl)))
    (apply Par.quiet _ [true, true, true, true, false, true, true, true, true, true, true, true, true, true, true, true, true]; exact rfl; decide +kernel; exact rfl; intro R; refine ⟨_, (by repeat constructor), ?_⟩;
         (first | (apply EvW.fieldAddr0; exact rfl; exact FldC.eq)))
    (apply Par.quiet _ [true, true, true, true, false, true, true, true, true, true, true, true, true, true, true, true, true]; exact rfl; decide +kernel; exact rfl; intro R; refine ⟨_, (by repeat constructor), ?_⟩;
         (first | (apply EvW.load; exact rfl; exact ScalC.eq; (focus ((repeat constructor); done)); exact rfl)))
    (apply Par.quiet _ [true, true, true, true, false, true, true, true, true, true, true, true, true, true, true, true, true]; exact rfl; decide +kernel; exact rfl; intro R; refine ⟨_, (by repeat constructor), ?_⟩;
         (first | (apply EvW.idxOwn; exact rfl; exact rfl; exact UndC.eq; exact SzC.eq; (focus ((repeat constructor); done)); omega; omega)))
    apply Par.eff _ [false, false, false, true, false, false, false, false, false, false, false, false, false, false, false, false, false] [false, false, false, false, true, false, false, false, false, false, false, false, false, false, false, false, false] [true, true, true, false, false, true, true, true, true, true, true, true, true, true, true, true, true]
    · exact rfl
    · exact rfl
    · decide +kernel
    · intro R
      refine ⟨_, _, _, (by repeat constructor), (by repeat constructor), (by repeat constructor), ?_⟩
      (apply EffW.stFld (e1); exact rfl; exact rfl; exact rfl; exact SzC.eq; exact rfl; exact rfl; (focus ((repeat constructor); done)); exact fun _ => rfl; exact hlt; (rw [he1]; exact rfl); exact rfl; exact Take.head)
    exact Par.nil
  · repeat (first | exact AllN.nil | (apply AllN.cons; (intro c x; (repeat (first | exact IndA.nil | (apply IndA.skip; decide +kernel) | apply IndA.same))))) 
  · repeat (first | exact AllN.nil | (apply AllN.cons; (intro c x; (repeat (first | exact IndT.nil | (apply IndT.skip; decide +kernel) | apply IndT.same))))) 
  · exact fun _ => rfl
  intro c
  refine ⟨_, (by repeat constructor), ?_⟩
  apply WE.writ
  · (focus ((repeat (first | exact Writ.nil | apply Writ.some | apply Writ.none)); done))
  repeat first
    | (apply WL.q; exact rfl; exact rfl; exact rfl; (first | (apply EvW.assign; exact rfl)))
    | refine WC.seq ?_ | refine WC.region ?_ | refine WL.nil ?_ | refine WE.next ?_ | refine WC.ret ?_
  have hE : earH e1 = sepL [.blk v.r #[i64 (rc).peer, i64 (rc).age, i64 (rc).last, nv] 106, .own 3 1 (nv) (ns).length ((ns).map i64), .own 3 1 (a) (z.1).length ((z.1).map i64), .own 3 1 (b) (z.2.1).length ((z.2.1).map i64), .own 3 1 (y2) (z.2.2.1).length ((z.2.2.1).map i64), .own 3 1 (d) (z.2.2.2).length ((z.2.2.2).map i64)] := by rw [he1]; rfl
  refine WE.pack (L := [.blk v.r #[i64 (rc).peer, i64 (rc).age, i64 (rc).last, nv] 106, .own 3 1 (nv) (ns).length ((ns).map i64), .own 3 1 (a) (z.1).length ((z.1).map i64), .own 3 1 (b) (z.2.1).length ((z.2.1).map i64), .own 3 1 (y2) (z.2.2.1).length ((z.2.2.1).map i64), .own 3 1 (d) (z.2.2.2).length ((z.2.2.2).map i64)]) (by repeat constructor) ?_
  rw [← hE]
  refine WE.back (L := (x.es.set oc.toNat e1).map earH) (z := earH e1) (by repeat constructor) (take_map_set _ hlt) ?_
  rw [← hp1, ← hx1]
  refine WE.pack (L := [.blk (x).b #[(g).vS, (g).vJ, (g).vG, (g).vC, (g).vR, i64 (g).age, i64 (g).brake, i64 (g).hold, i64 (g).budget, (x).rv, (x).sv, (x).tv] 102, .own 103 1 (x.rv) ((x.es.set oc.toNat e1)).length (((x.es.set oc.toNat e1)).map rPtr), .own 54 4 (x.sv) ((x.es.set oc.toNat e1)).length (((x.es.set oc.toNat e1)).flatMap rSt), .own 3 1 (x.tv) ((x.es.set oc.toNat e1)).length (((x.es.set oc.toNat e1)).flatMap rSm), sepL ((x.es.set oc.toNat e1).map earH)]) (by repeat constructor) ?_
  refine WE.keep (xs := [rimgH g { x with es := x.es.set oc.toNat e1 }]) (by repeat constructor) ?_
  refine WE.ret1 rfl rfl ?_
  refine ⟨.agg #[a, b, y2, d], nv, ?_, ?_⟩
  · unfold tookE; rw [if_pos ⟨g0, g4⟩]; rw [if_neg (fun h => h rfl)]
  · unfold RImg.took; rw [if_pos ⟨g0, g4⟩, hv]; unfold REar.got; rw [if_neg (fun h => h rfl), if_pos rfl, he1]; rfl
def RImg.lost (x : RImg) (i : Nat) : Int := ((x.es.take i).map fun e => Go.Proofs.Ytamofjpadnnppaa.lost e.ns).sum
theorem rlostI_step (x : RImg) (i : Nat) (h : i < x.es.length) : x.lost (i + 1) = x.lost i + Go.Proofs.Ytamofjpadnnppaa.lost (x.es.getD i default).ns := by
  unfold RImg.lost
  rw [List.take_add_one, getD_some (d := default) h, List.map_append, List.sum_append]; simp
theorem rlostI_bd (x : RImg) (M : Int) (hM : 0 ≤ M) (hb : ∀ k, k < x.es.length → 0 ≤ Go.Proofs.Ytamofjpadnnppaa.lost (x.es.getD k default).ns ∧ Go.Proofs.Ytamofjpadnnppaa.lost (x.es.getD k default).ns ≤ M) : ∀ i : Nat, i ≤ x.es.length → 0 ≤ x.lost i ∧ x.lost i ≤ i * M
  | 0, _ => by simp [RImg.lost]
  | i + 1, h => by
    have h1 := rlostI_bd x M hM hb i (by omega)
    have h2 := hb i (by omega)
    rw [rlostI_step x i (by omega)]
    have : ((i + 1 : Nat) : Int) * M = i * M + M := by rw [Int.natCast_add, Int.add_mul]; simp
    omega
theorem rlostS_spec (e : REar) (w : World) (S : BSet) (hS : (sepL []).sat S w) (he : e.Seen w S) (hn : (e.ns.length : Int) ≤ 17592186044416) :
    Tri Try.prog 50 #[ptr e.r 0] w S fun u A => u = i64 (Go.Proofs.Ytamofjpadnnppaa.lost e.ns) ∧ A = [] := by
  refine Tri.enter (l := [ptr e.r 0]) Try.func50 rfl Try.ntmps50 rfl [(0, ptr e.r 0)] (subA rfl) hS ?_
  have hB := he.blk
  have hN := he.ns
  repeat first
    | (apply WL.q; exact rfl; exact rfl; exact rfl; (first | (apply EvW.move; exact rfl) | (apply EvW.assign; exact rfl) | (apply EvW.nilPtr; exact rfl) | (apply EvW.fieldAddr0; exact rfl; exact FldC.eq) | (apply EvW.ldSeen; exact rfl; exact ScalC.eq; assumption; (first | exact rfl | assumption))))
    | refine WC.seq ?_ | refine WC.region ?_ | refine WL.nil ?_ | refine WE.next ?_
  try refine WL.wanted rfl rfl rfl ?_
  apply WL.callA ([])
  · exact rfl
  · exact rfl
  · exact fun w => Try.call69 _ w
  · (focus ((repeat constructor); done))
  · exact fun w1 S1 hS1 hs1 ho1 => sq_refLost_spec e.v e.ns w1 S1 hS1 (hs1 _ hN) hn
  rintro _ _ ⟨rfl, rfl⟩
  first | refine WL.app4 ?_ | refine WL.app3 ?_ | refine WL.app2 ?_ | refine WL.app1 ?_ | refine WL.app0 ?_ | skip
  repeat first
    | (apply WL.q; exact rfl; exact rfl; exact rfl; (first | (apply EvW.assign; exact rfl)))
    | refine WL.nil ?_ | refine WE.next ?_ | refine WC.ret ?_
  refine WE.ret1 rfl rfl ?_
  exact ⟨rfl, rfl⟩
theorem rlostI_spec (c : Cfg) (x : RImg) (w : World) (S : BSet) (hS : (sepL []).sat S w) (hx : x.Seen c w S) (hn : ∀ k, k < 4 → ((x.es.getD k default).ns.length : Int) ≤ 17592186044416) (hb : ∀ k, k < x.es.length → 0 ≤ Go.Proofs.Ytamofjpadnnppaa.lost (x.es.getD k default).ns ∧ Go.Proofs.Ytamofjpadnnppaa.lost (x.es.getD k default).ns ≤ 1152921504606846976) :
    Tri Try.prog 20 #[ptr x.b 0] w S fun u A => u = i64 (x.lost 4) ∧ A = [] := by
  refine Tri.enter (l := [ptr x.b 0]) Try.func20 rfl Try.ntmps20 rfl [(0, ptr x.b 0)] (subA rfl) hS ?_
  have hB := hx.blk
  have hV := hx.rv
  have hlen := hx.len
  repeat first
    | (apply WL.q; exact rfl; exact rfl; exact rfl; (first | (apply EvW.move; exact rfl) | (apply EvW.assign; exact rfl) | (apply EvW.nilPtr; exact rfl) | (apply EvW.fieldAddr0; exact rfl; exact FldC.eq) | (apply EvW.ldSeen; exact rfl; exact ScalC.eq; assumption; (first | exact rfl | assumption)) | (apply EvW.lenRow; exact rfl; exact UndC.eq; assumption)))
    | refine WC.seq ?_ | refine WC.region ?_ | refine WL.nil ?_ | refine WE.next ?_ | refine WC.block ?_
  refine WC.loopK (σ := Nat) [9, 10] (fun s => [(11, i64 s), (3, i64 (x.lost s))]) (fun s => []) (fun s => s ≤ 4) (fun s => 4 - s) 0 (by (focus ((repeat (first | exact Pick.nil | (apply Pick.cons; exact rfl))); done))) (by (focus ((repeat (first | exact trivial | (refine ⟨rfl, ?_⟩))); done))) (fun _ h => h.keep (by repeat constructor)) (Nat.zero_le _) (fun s hs => ?_)
  obtain ⟨i, rfl⟩ : ∃ q, q = s := ⟨s, rfl⟩
  simp only [List.cons_append, List.nil_append] at hs ⊢
  have hbd := rlostI_bd x 1152921504606846976 (by decide) hb i (by omega)
  by_cases hlt : (i : Int) < (4 : Nat)
  · have hk := hx.e i (by omega)
    have hkb := hb i (by omega)
    have hkn := hn i (by omega)
    have hat : (x.es.map rPtr)[i * 1 + 0]? = some (ptr ((x.es.getD i default)).r 0) := by
      rw [Nat.mul_one, Nat.add_zero, List.getElem?_map, getD_some (d := default) (by omega)]; rfl
    have hst := rlostI_step x i (by omega)
    obtain ⟨v, hv⟩ : ∃ v, x.es.getD i default = v := ⟨_, rfl⟩
    rw [hv] at hk hat hst hkb hkn
    repeat first
      | (apply WL.q; exact rfl; exact rfl; exact rfl; (first | (apply EvW.cmpT; exact rfl; exact rfl; exact rfl; omega) | (apply EvW.idxRow; exact rfl; exact rfl; exact UndC.eq; exact SzC.eq; assumption; omega; omega)))
      | refine WC.seq ?_ | refine WC.region ?_ | refine WL.nil ?_ | refine WE.next ?_ | refine WC.block ?_ | refine WC.skip ?_ | refine WC.condT rfl ?_
    try refine WL.wanted rfl rfl rfl ?_
    (apply WL.q; exact rfl; exact rfl; exact rfl; (apply EvW.ldRow (i := i) (off := 0) (q := ptr v.r 0); exact rfl; exact ScalC.eq; assumption; exact hat))
    repeat first
      | (apply WL.q; exact rfl; exact rfl; exact rfl; (first | (apply EvW.move; exact rfl) | (apply EvW.assign; exact rfl)))
      | refine WC.region ?_ | refine WL.nil ?_ | refine WE.next ?_
    try refine WL.wanted rfl rfl rfl ?_
    apply WL.callA ([])
    · exact rfl
    · exact rfl
    · exact fun w => Try.call50 _ w
    · (focus ((repeat constructor); done))
    · exact fun w1 S1 hS1 hs1 ho1 => rlostS_spec v w1 S1 hS1 (hk.down hs1) hkn
    rintro _ _ ⟨rfl, rfl⟩
    first | refine WL.app4 ?_ | refine WL.app3 ?_ | refine WL.app2 ?_ | refine WL.app1 ?_ | refine WL.app0 ?_ | skip
    repeat first
      | (apply WL.q; exact rfl; exact rfl; exact rfl; (first | (apply EvW.move; exact rfl) | (apply EvW.assign; exact rfl) | (apply EvW.arN; exact rfl; exact rfl; exact rfl; refine i64_in ?_ ?_ <;> omega)))
      | refine WC.region ?_ | refine WL.nil ?_ | refine WE.next ?_ | refine WE.out ?_
    rw [← hst]
    skip
    exact WE.again (s := i) ((i + 1)) (by omega) (by (focus ((repeat (first | exact trivial | (refine ⟨rfl, ?_⟩))); done))) (fun _ h => (by (try simp only []); exact h.keep (by repeat constructor))) (by (try simp only []); omega)
  · obtain rfl : i = 4 := by omega
    repeat first
      | (apply WL.q; exact rfl; exact rfl; exact rfl; (first | (apply EvW.move; exact rfl) | (apply EvW.assign; exact rfl) | (apply EvW.cmpF; exact rfl; exact rfl; exact rfl; omega)))
      | refine WC.seq ?_ | refine WC.region ?_ | refine WL.nil ?_ | refine WE.next ?_ | refine WC.exit ?_ | refine WE.pass ?_ | refine WE.hit ?_ | refine WC.condF rfl ?_ | refine WC.ret ?_
    refine WE.bare ?_
    refine WE.ret1 rfl rfl ?_
    exact ⟨rfl, rfl⟩
end Go.Proofs.Ytamofjpadnnppaa
namespace Go.Proofs.Ytamofjpadnnppaa
open Go.RowKit Go.BK
theorem lput_step {m : PW} {b : List UInt8} (h : (m.put b).e = 0) : m.e = 0 ∧ (m.put b).out = m.out ++ b := by
  unfold PW.put at h ⊢
  split at h
  · simp only [PW.note] at h
    split at h
    · omega
    · contradiction
  · rename_i hc
    rw [if_neg hc]
    split at h
    · rename_i he
      rw [if_pos he]
      exact ⟨he, rfl⟩
    · contradiction
theorem lnum_step {m : PW} {k : Nat} {x : Int} (h : (m.num k x).e = 0) : m.e = 0 ∧ (0 ≤ x ∧ x < 256 ^ k) ∧ (m.num k x).out = m.out ++ be k x := by
  by_cases hb : x < 0 ∨ 256 ^ k ≤ x
  · rw [num_wrong k m x hb] at h
    simp only [PW.note] at h
    split at h
    · omega
    · contradiction
  · have h0 : 0 ≤ x ∧ x < 256 ^ k := by omega
    rw [num_right k m x h0.1 h0.2] at h ⊢
    exact ⟨(lput_step h).1, h0, (lput_step h).2⟩
theorem lnum_ok (k : Nat) (m : PW) (x : Int) (he : m.e = 0) (h0 : 0 ≤ x) (h1 : x < 256 ^ k) (hr : (m.out.length : Int) + k ≤ m.lim) : m.num k x = ⟨0, m.out ++ be k x, m.lim⟩ := by
  rw [num_right k m x h0 h1]
  unfold PW.put
  rw [if_neg (by rw [be_length]; omega), if_pos he]
  cases m
  simp only [PW.add] at he ⊢
  rw [he]
theorem lnum_app (k : Nat) (x : Int) (t : List UInt8) (h : numOf (be k x) = x) : (PR.mk 0 (be k x ++ t)).num k = (x, PR.mk 0 t) := by
  rw [num_good (PR.mk 0 (be k x ++ t)) k rfl (by simp [be_length])]
  dsimp only
  rw [List.take_left' (be_length k x), List.drop_left' (be_length k x), h]
def tBytes (x : Said) : List UInt8 := be 1 x.p ++ (be 2 x.n ++ be 4 x.s)
theorem tBytes_len (x : Said) : (tBytes x).length = 7 := by simp [tBytes, be_length]
theorem tM_of {x : Said} (h1 : 0 ≤ x.p ∧ x.p < 256) (h2 : 0 ≤ x.n ∧ x.n < 65536) (h3 : 0 ≤ x.s ∧ x.s < 4294967296) : tM x.p x.n x.s = ⟨0, tBytes x, 7⟩ := by
  unfold tM
  rw [lnum_ok 1 (PW.init 7) x.p rfl h1.1 (by simpa using h1.2) (by decide)]
  rw [lnum_ok 2 _ x.n rfl h2.1 (by simpa using h2.2) (by simp [PW.init, be_length] <;> decide)]
  rw [lnum_ok 4 _ x.s rfl h3.1 (by simpa using h3.2) (by simp [PW.init, be_length] <;> decide)]
  simp [tBytes, PW.init] <;> decide
theorem tM_step {x : Said} (h : (tM x.p x.n x.s).e = 0) : (0 ≤ x.p ∧ x.p < 256) ∧ (0 ≤ x.n ∧ x.n < 65536) ∧ (0 ≤ x.s ∧ x.s < 4294967296) := by
  obtain ⟨h2, b3, _⟩ := lnum_step h
  obtain ⟨h1, b2, _⟩ := lnum_step h2
  obtain ⟨_, b1, _⟩ := lnum_step h1
  exact ⟨by simpa using b1, by simpa using b2, by simpa using b3⟩
theorem make_ok {x : Said} (h : x.small) : makeF x = (frame (tBytes x ++ x.t), 0) := by
  have hl := h.t
  unfold makeF
  rw [tM_of h.p h.n h.s, if_neg (fun k => k rfl), if_neg (by omega)]
theorem make_cases {x : Said} {q : List UInt8} (h : makeF x = (q, 0)) : x.small ∧ q = frame (tBytes x ++ x.t) := by
  unfold makeF at h
  by_cases he : (tM x.p x.n x.s).e = 0
  rotate_left
  · rw [if_pos he] at h; exact absurd (congrArg Prod.snd h) he
  rw [if_neg (fun k => k he)] at h
  by_cases hl : (x.t.length : Int) > 1000
  · rw [if_pos hl] at h; exact absurd (congrArg Prod.snd h) (by simp)
  rw [if_neg hl] at h
  obtain ⟨b1, b2, b3⟩ := tM_step he
  rw [tM_of b1 b2 b3] at h
  exact ⟨⟨b1, b2, b3, by omega⟩, (congrArg Prod.fst h).symm⟩
theorem read_frame {x : Said} (h : x.small) : readF (frame (tBytes x ++ x.t)) = (x, 0) := by
  have hl := h.t
  have h7 := tBytes_len x
  have e1 : r1 (tBytes x ++ x.t) = (x.p, PR.mk 0 (be 2 x.n ++ (be 4 x.s ++ x.t))) := by
    have e : tBytes x ++ x.t = be 1 x.p ++ (be 2 x.n ++ (be 4 x.s ++ x.t)) := by simp [tBytes]
    rw [e]; exact lnum_app 1 x.p _ (numOf_be1 _ h.p.1 h.p.2)
  have e2 : r2 (tBytes x ++ x.t) = (x.n, PR.mk 0 (be 4 x.s ++ x.t)) := by unfold r2; rw [e1]; exact lnum_app 2 x.n _ (numOf_be2 _ h.n.1 h.n.2)
  have e3 : r3 (tBytes x ++ x.t) = (x.s, PR.mk 0 x.t) := by unfold r3; rw [e2]; exact lnum_app 4 x.s _ (numOf_be4 _ h.s.1 h.s.2)
  unfold readF
  rw [openF_frame _ (by rw [List.length_append]; omega)]
  dsimp only
  rw [if_neg (fun k => k rfl), if_neg (by rw [List.length_append]; omega), if_neg (by rw [List.length_append]; omega), e1, e2, e3, List.drop_left' h7]
theorem make_back {x : Said} {q : List UInt8} (h : makeF x = (q, 0)) : readF q = (x, 0) ∧ q.length ≤ 1013 := by
  obtain ⟨hs, rfl⟩ := make_cases h
  have hl := hs.t
  have h7 := tBytes_len x
  exact ⟨read_frame hs, by rw [frame_length, List.length_append]; omega⟩
end Go.Proofs.Ytamofjpadnnppaa
namespace Go.Proofs.Ytamofjpadnnppaa
open Go.RowKit Go.BK
/-- What a receiver knows of the numbers that it took. -/
def Rel (m : Rcv) (ns : List Int) : Prop := (ns = [] ∧ m.last = -1 ∧ m.lost = 0) ∨ ∃ x t, ns = x :: t ∧ 0 ≤ m.last ∧ (m.num, m.lost) = t.foldl lostStep (x, 0)
theorem Rel.lost {m : Rcv} {ns : List Int} (h : Rel m ns) : Go.Proofs.Ytamofjpadnnppaa.lost ns = m.lost := by
  rcases h with ⟨rfl, _, h⟩ | ⟨x, t, rfl, _, h⟩
  · rw [h]; rfl
  · show (t.foldl lostStep (x, 0)).2 = m.lost
    rw [← h]
theorem Rel.bd {m : Rcv} {ns : List Int} (h : Rel m ns) : 0 ≤ m.lost ∧ m.lost ≤ 32767 * ns.length := by
  rcases h with ⟨rfl, _, h⟩ | ⟨x, t, rfl, _, h⟩
  · rw [h]; simp
  · have := lost_bd t (x, 0) (Int.le_refl _)
    rw [← h] at this
    simp only [List.length_cons] at this ⊢
    omega
theorem Rel.note {m : Rcv} {ns : List Int} (h : Rel m ns) {n s : Int} (hs : 0 ≤ s) : Rel (m.note n s) (ns ++ [n]) := by
  rcases h with ⟨rfl, h1, h2⟩ | ⟨x, t, rfl, h1, h2⟩
  · refine .inr ⟨n, [], rfl, by rw [note_last]; exact hs, ?_⟩
    unfold Rcv.note
    rw [if_neg (by omega)]
    show (n, m.lost) = (n, 0)
    rw [h2]
  · refine .inr ⟨x, t ++ [n], rfl, by rw [note_last]; exact hs, ?_⟩
    unfold Rcv.note
    rw [if_pos h1, List.foldl_append, ← h2]
    rfl
theorem Rel.step {m : Rcv} {ns : List Int} (h : Rel m ns) (now : Int) {x : Said} (e : Int) (hx : x.small) : Rel (takeF m now (x, e)).1 (numsF m now (x, e) ns) ∧ (numsF m now (x, e) ns).length ≤ ns.length + 1 := by
  unfold numsF takeF
  dsimp only
  by_cases he : e = 0
  rotate_left
  · rw [if_pos he]; dsimp only; rw [if_neg he]; exact ⟨h, Nat.le_succ _⟩
  rw [if_neg (fun k => k he)]
  by_cases hp : x.p = m.peer
  rotate_left
  · rw [if_pos hp]; exact ⟨h, Nat.le_succ _⟩
  rw [if_neg (fun k => k hp)]
  by_cases hn : now < x.s
  · rw [if_pos hn]; exact ⟨h, Nat.le_succ _⟩
  rw [if_neg hn]
  by_cases ha : m.age < now - x.s
  · rw [if_pos ha]; exact ⟨h, Nat.le_succ _⟩
  rw [if_neg ha]
  by_cases hz : x.s ≤ m.last
  · rw [if_pos hz]; exact ⟨h, Nat.le_succ _⟩
  rw [if_neg hz]
  exact ⟨h.note hx.s.1, by simp⟩
end Go.Proofs.Ytamofjpadnnppaa
namespace Go.Proofs.Ytamofjpadnnppaa
open Go.RowKit Go.BK
theorem tpart_len {l : List UInt8} {o n : Nat} (h : o + n ≤ l.length) : (tpart l o n).length = n := by simp [tpart]; omega
theorem RS.lens {h : Q4} {l : List UInt8} {z : Got} (k : RS h l 0 z) : z.1.length = h.la.length ∧ z.2.1.length = h.lb.length ∧ z.2.2.1.length = h.ly.length ∧ z.2.2.2.length = h.ld.length := by
  rcases k with ⟨hg, _, rfl⟩ | ⟨_, h, _⟩
  · have hl := hg.1
    exact ⟨tpart_len (by omega), tpart_len (by omega), tpart_len (by omega), tpart_len (by omega)⟩
  · cases h
/-- A controller's voice, and what the document has of it. -/
structure Pair (c : Cfg) (k : Nat) (v : Voice) (e : REar) (n : Nat) : Prop where
  rc : v.rc = e.rc
  rel : Rel e.rc e.ns
  nl : e.ns.length ≤ n
  sa : v.sd.la = e.sd.la
  sb : v.sd.lb = e.sd.lb
  sy : v.sd.ly = e.sd.ly
  sd : v.sd.ld = e.sd.ld
  st : v.stamp = e.stamp
  sh : ∃ q, v.sh = c.shape k q
  la : 0 ≤ e.stamp → e.sd.la.length = (c.lS k).length
  lb : 0 ≤ e.stamp → e.sd.lb.length = (c.lP k).length
  ly : 0 ≤ e.stamp → e.sd.ly.length = (c.lC k).length
  ld : 0 ≤ e.stamp → e.sd.ld.length = (c.lG k).length
  few : e.sd.Few
theorem shape_few {c : Cfg} (h : c.Small) (oc : Int) (q : Value) : (c.shape oc q).Few := by
  have k1 := idx_le (c.pS oc) c.secs.length
  have k2 := idx_le (c.pP oc) c.secs.length
  have k3 := idx_le (c.pC oc) c.crs.length
  have k4 := idx_le (c.pG oc) c.sigs.length
  have k5 := h.s
  have k6 := h.g
  have k7 := h.r
  exact ⟨by show (idx _ _).length ≤ _; omega, by show (idx _ _).length ≤ _; omega, by show (idx _ _).length ≤ _; omega, by show (idx _ _).length ≤ _; omega⟩
theorem Pair.vfew {c : Cfg} {k : Nat} {v : Voice} {e : REar} {n : Nat} (h : Pair c k v e n) (hs : c.Small) : v.Few := by
  obtain ⟨q, hq⟩ := h.sh
  refine ⟨by rw [hq]; exact shape_few hs _ _, ?_⟩
  exact ⟨by rw [h.sa]; exact h.few.a, by rw [h.sb]; exact h.few.b, by rw [h.sy]; exact h.few.y, by rw [h.sd]; exact h.few.d⟩
theorem Pair.up {c : Cfg} {k : Nat} {v : Voice} {e : REar} {n : Nat} (h : Pair c k v e n) : Pair c k v e (n + 1) :=
  ⟨h.rc, h.rel, Nat.le_succ_of_le h.nl, h.sa, h.sb, h.sy, h.sd, h.st, h.sh, h.la, h.lb, h.ly, h.ld, h.few⟩
theorem rs_few {h : Q4} {l : List UInt8} {k : Int} {z : Got} (hk : RS h l k z) (hf : h.Few) (sv : Value) : (Q4.of sv z).Few := by
  rcases hk with ⟨_, _, rfl⟩ | ⟨_, _, rfl⟩
  · exact ⟨Nat.le_trans (tpart_le _ _ _) hf.a, Nat.le_trans (tpart_le _ _ _) hf.b, Nat.le_trans (tpart_le _ _ _) hf.y, Nat.le_trans (tpart_le _ _ _) hf.d⟩
  · exact ⟨Nat.zero_le _, Nat.zero_le _, Nat.zero_le _, Nat.zero_le _⟩
theorem Pair.step {c : Cfg} {k : Nat} {v : Voice} {e : REar} {n : Nat} (h : Pair c k v e n) (hs : c.Small) {now : Int} {y : Said} {er : Int} {l : List UInt8} (hr : readF l = (y, er)) {t : Rcv × List UInt8 × Int} (ht : takeF e.rc now (y, er) = t) {j : Int} {z : Got} (hk : RS (c.shape k undef) t.2.1 j z) (sv sv' nv : Value) :
    Pair c k (v.got t j z sv) (e.got t j z sv' nv (numsF e.rc now (y, er) e.ns)) (n + 1) := by
  obtain ⟨hR, hl⟩ := h.rel.step now er (readF_small hr)
  rw [ht] at hR
  have hn := h.nl
  unfold Voice.got REar.got
  by_cases h1 : t.2.2 ≠ 0
  · rw [if_pos h1, if_pos h1]
    exact ⟨rfl, hR, by show (numsF _ _ _ _).length ≤ _; omega, h.sa, h.sb, h.sy, h.sd, h.st, h.sh, h.la, h.lb, h.ly, h.ld, h.few⟩
  rw [if_neg h1, if_neg h1]
  by_cases h2 : j = 0
  · subst h2
    rw [if_pos rfl, if_pos rfl]
    obtain ⟨k1, k2, k3, k4⟩ := hk.lens
    exact ⟨rfl, hR, by show (numsF _ _ _ _).length ≤ _; omega, rfl, rfl, rfl, rfl, rfl, h.sh, fun _ => k1, fun _ => k2, fun _ => k3, fun _ => k4, rs_few hk (shape_few hs _ _) _⟩
  · rw [if_neg h2, if_neg h2]
    exact ⟨rfl, hR, by show (numsF _ _ _ _).length ≤ _; omega, h.sa, h.sb, h.sy, h.sd, h.st, h.sh, h.la, h.lb, h.ly, h.ld, h.few⟩
structure Alike (c : Cfg) (x : Img) (y : RImg) (n : Nat) : Prop where
  cs : x.c.secs = c.secs
  cr : x.c.crs = c.crs
  cg : x.c.sigs = c.sigs
  ca : x.c.age = c.age
  xl : x.vs.length = 4
  yl : y.es.length = 4
  p : ∀ k, k < 4 → Pair c k ((x.vs.getD k default)) ((y.es.getD k default)) n
theorem getD_set {α : Type} {l : List α} {i j : Nat} {a d : α} (h : i < l.length) : (l.set i a).getD j d = if i = j then a else l.getD j d := by
  rw [List.getD_eq_getElem?_getD, List.getElem?_set]
  split
  · rfl
  · rw [← List.getD_eq_getElem?_getD]
theorem Alike.step {c : Cfg} {x : Img} {y : RImg} {n : Nat} (h : Alike c x y n) (hs : c.Small) {now oc : Int} {m : Said} {er : Int} {l : List UInt8} (hr : readF l = (m, er)) {t : Rcv × List UInt8 × Int} (ht : takeF ((y.es.getD oc.toNat default)).rc now (m, er) = t) {j : Int} {z : Got} (hk : 0 ≤ oc ∧ oc < 4 → RS (c.shape oc undef) t.2.1 j z) (sv sv' nv : Value) :
    Alike c (x.took oc t j z sv) (y.took oc t j z sv' nv (numsF ((y.es.getD oc.toNat default)).rc now (m, er) ((y.es.getD oc.toNat default)).ns)) (n + 1) := by
  unfold Img.took RImg.took
  by_cases g : 0 ≤ oc ∧ oc < 4
  rotate_left
  · rw [if_neg g, if_neg g]
    exact ⟨h.cs, h.cr, h.cg, h.ca, h.xl, h.yl, fun k hk => (h.p k hk).up⟩
  rw [if_pos g, if_pos g]
  refine ⟨h.cs, h.cr, h.cg, h.ca, by simp [h.xl], by simp [h.yl], fun k hk4 => ?_⟩
  dsimp only
  rw [getD_set (by rw [h.xl]; omega), getD_set (by rw [h.yl]; omega)]
  by_cases e : oc.toNat = k
  · rw [if_pos e, if_pos e]
    subst e
    have hoc : ((oc.toNat : Nat) : Int) = oc := Int.toNat_of_nonneg g.1
    exact (h.p _ hk4).step hs hr ht (by rw [hoc]; exact hk g) sv sv' nv
  · rw [if_neg e, if_neg e]
    exact (h.p k hk4).up
theorem Alike.xok {c : Cfg} {x : Img} {y : RImg} {n : Nat} (h : Alike c x y n) (hs : c.Small) : x.Ok :=
  ⟨h.xl, fun k hk => (h.p k hk).vfew hs, ⟨by rw [h.cs]; exact hs.s, by rw [h.cg]; exact hs.g, by rw [h.cr]; exact hs.r⟩⟩
theorem Alike.yok {c : Cfg} {x : Img} {y : RImg} {n : Nat} (h : Alike c x y n) : y.Ok := ⟨h.yl, fun k hk => (h.p k hk).few⟩
theorem Alike.alive {c : Cfg} {x : Img} {y : RImg} {n : Nat} (h : Alike c x y n) (now oc : Int) : aliveP y.st now c.age oc = aliveP x.st now x.c.age oc := by
  by_cases g : 0 ≤ oc ∧ oc < 4
  · rw [aliveP_in g, aliveP_in g, h.ca]
    show freshF ((y.es.getD oc.toNat default)).stamp _ _ = freshF ((x.vs.getD oc.toNat default)).stamp _ _
    rw [(h.p oc.toNat (by omega)).st]
  · rw [aliveP_out g, aliveP_out g]
theorem alive_pos {st : Int → Int} {now age oc : Int} (h : aliveP st now age oc = true) : (0 ≤ oc ∧ oc < 4) ∧ 0 ≤ st oc ∧ st oc ≤ now ∧ now - st oc ≤ age := by
  by_cases g : 0 ≤ oc ∧ oc < 4
  · rw [aliveP_in g] at h
    unfold freshF at h
    simp only [Bool.and_eq_true, decide_eq_true_eq] at h
    exact ⟨g, h.1, h.2.1, h.2.2⟩
  · rw [aliveP_out g] at h; cases h
theorem Alike.sound {c : Cfg} {x : Img} {y : RImg} {n : Nat} (h : Alike c x y n) (now : Int) : x.Sound now := by
  have key : ∀ oc, aliveP x.st now x.c.age oc = true → Pair c oc.toNat ((x.vs.getD oc.toNat default)) ((y.es.getD oc.toNat default)) n ∧ 0 ≤ ((y.es.getD oc.toNat default)).stamp := fun oc ho => by
    obtain ⟨g, g0, _⟩ := alive_pos ho
    have hp := h.p oc.toNat (by omega)
    refine ⟨hp, ?_⟩
    rw [← hp.st]; exact g0
  refine ⟨fun oc ho => ?_, fun oc ho => ?_, fun oc ho => ?_, fun oc ho => ?_⟩ <;> obtain ⟨hp, h0⟩ := key oc ho <;> obtain ⟨q, hq⟩ := hp.sh
  · rw [hp.sa, hp.la h0, hq]; rfl
  · rw [hp.sb, hp.lb h0, hq]; rfl
  · rw [hp.sy, hp.ly h0, hq]; rfl
  · rw [hp.sd, hp.ld h0, hq]; rfl
theorem Alike.look {c : Cfg} {x : Img} {y : RImg} {n : Nat} (h : Alike c x y n) (now oc el worst : Int) (sel : Sel) (f : Got → List Int) (s : Q4 → List Int) (h1 : ∀ q, (sel q).2 = s q) (h2 : ∀ (k : Int) q, s (c.shape k q) = f (c.lS k, c.lP k, c.lC k, c.lG k)) (h3 : ∀ k, k < 4 → s ((x.vs.getD k default)).sd = s ((y.es.getD k default)).sd) :
    lookP (aliveP x.st now x.c.age oc) (atF (sel ((x.vs.getD oc.toNat default)).sh).2 el) (sel ((x.vs.getD oc.toNat default)).sd).2 ((x.vs.getD oc.toNat default)).stamp worst = y.lk c now oc el worst f s := by
  unfold RImg.lk
  rw [h.alive]
  cases ha : aliveP x.st now x.c.age oc with
  | false => rw [lookP_dead, lookP_dead]
  | true =>
    obtain ⟨g, _⟩ := alive_pos ha
    have hp := h.p oc.toNat (by omega)
    have hoc : ((oc.toNat : Nat) : Int) = oc := Int.toNat_of_nonneg g.1
    obtain ⟨q, hq⟩ := hp.sh
    rw [h1, h1, hq, h2, h3 _ (by omega), hp.st, hoc]
    unfold shp RImg.sdOf RImg.st
    rw [if_pos g, if_pos g]
theorem Alike.occ {c : Cfg} {x : Img} {y : RImg} {n : Nat} (h : Alike c x y n) (now : Int) : x.occ now x.c.secs.length = y.occ c now c.secs.length := by
  unfold Img.occ RImg.occ
  rw [h.cs]
  refine List.map_congr_left fun i hi => ?_
  rw [List.mem_range] at hi
  unfold Img.lookV
  rw [ocOf_in (by omega) (by rw [h.cs]; omega), h.cs]
  exact h.look now _ _ _ selA (·.1) Q4.la (fun _ => rfl) (fun _ _ => rfl) (fun k hk => (h.p k hk).sa)
theorem Alike.pos {c : Cfg} {x : Img} {y : RImg} {n : Nat} (h : Alike c x y n) (now : Int) : x.pos now x.c.secs.length = y.pos c now c.secs.length := by
  unfold Img.pos RImg.pos
  rw [h.cs]
  refine List.map_congr_left fun i hi => ?_
  rw [List.mem_range] at hi
  unfold Img.lookV
  rw [ocOf_in (by omega) (by rw [h.cs]; omega), h.cs]
  exact h.look now _ _ _ selB (·.2.1) Q4.lb (fun _ => rfl) (fun _ _ => rfl) (fun k hk => (h.p k hk).sb)
theorem ocOf_same {c d : Cfg} (h : d.secs = c.secs) (s : Int) : ocOf d s = ocOf c s := by unfold ocOf; rw [h]
theorem Alike.shut {c : Cfg} {x : Img} {y : RImg} {n : Nat} (h : Alike c x y n) (now : Int) : x.shut now x.c.crs.length = y.shut c now c.crs.length := by
  unfold Img.shut RImg.shut
  rw [h.cr]
  refine List.map_congr_left fun i hi => ?_
  unfold Img.lookV
  rw [ocOf_same h.cs]
  exact h.look now _ _ _ selY (·.2.2.1) Q4.ly (fun _ => rfl) (fun _ _ => rfl) (fun k hk => (h.p k hk).sy)
theorem Alike.lamp {c : Cfg} {x : Img} {y : RImg} {n : Nat} (h : Alike c x y n) (now : Int) : x.lamp now x.c.sigs.length = y.lamp c now c.sigs.length := by
  unfold Img.lamp RImg.lamp
  rw [h.cg]
  refine List.map_congr_left fun i hi => ?_
  unfold Img.lookV
  rw [ocOf_same h.cs]
  exact h.look now _ _ _ selD (·.2.2.2) Q4.ld (fun _ => rfl) (fun _ _ => rfl) (fun k hk => (h.p k hk).sd)
theorem Alike.lost {c : Cfg} {x : Img} {y : RImg} {n : Nat} (h : Alike c x y n) : ∀ i, i ≤ 4 → x.lost i = y.lost i
  | 0, _ => by simp [Img.lost, RImg.lost]
  | i + 1, hi => by
    rw [lostI_step x i (by rw [h.xl]; omega), rlostI_step y i (by rw [h.yl]; omega), h.lost i (by omega), (h.p i (by omega)).rel.lost, (h.p i (by omega)).rc]
theorem Alike.lostX {c : Cfg} {x : Img} {y : RImg} {n : Nat} (h : Alike c x y n) (hn : n ≤ 1048576) : ∀ k, k < x.vs.length → 0 ≤ ((x.vs.getD k default)).rc.lost ∧ ((x.vs.getD k default)).rc.lost ≤ 1152921504606846976 := fun k hk => by
  have hp := h.p k (by rw [h.xl] at hk; exact hk)
  have hb := hp.rel.bd
  have hl := hp.nl
  rw [hp.rc]
  omega
theorem Alike.lostY {c : Cfg} {x : Img} {y : RImg} {n : Nat} (h : Alike c x y n) (hn : n ≤ 1048576) : ∀ k, k < y.es.length → 0 ≤ Go.Proofs.Ytamofjpadnnppaa.lost ((y.es.getD k default)).ns ∧ Go.Proofs.Ytamofjpadnnppaa.lost ((y.es.getD k default)).ns ≤ 1152921504606846976 := fun k hk => by
  have hp := h.p k (by rw [h.yl] at hk; exact hk)
  have hb := hp.rel.bd
  have hl := hp.nl
  rw [hp.rel.lost]
  omega
theorem getD_out {α : Type} {l : List α} {d : α} {i : Nat} (h : l.length ≤ i) : l.getD i d = d := by
  rw [List.getD_eq_getElem?_getD, List.getElem?_eq_none h]; rfl
theorem Alike.rcs {c : Cfg} {x : Img} {y : RImg} {n : Nat} (h : Alike c x y n) (k : Nat) : ((x.vs.getD k default)).rc = ((y.es.getD k default)).rc := by
  by_cases hk : k < 4
  · exact (h.p k hk).rc
  · rw [getD_out (by rw [h.xl]; omega), getD_out (by rw [h.yl]; omega)]; rfl
theorem Alike.nsl {c : Cfg} {x : Img} {y : RImg} {n : Nat} (h : Alike c x y n) (k : Nat) : ((y.es.getD k default)).ns.length ≤ n := by
  by_cases hk : k < 4
  · exact (h.p k hk).nl
  · rw [getD_out (by rw [h.yl]; omega)]; exact Nat.zero_le _
theorem Alike.lostA {c : Cfg} {x : Img} {y : RImg} {n : Nat} (h : Alike c x y n) (hn : n ≤ 1048576) (k : Nat) : 0 ≤ ((x.vs.getD k default)).rc.lost ∧ ((x.vs.getD k default)).rc.lost ≤ 4611686018427387904 := by
  by_cases hk : k < 4
  · have := h.lostX hn k (by rw [h.xl]; exact hk)
    omega
  · rw [getD_out (by rw [h.xl]; omega)]; exact ⟨by show (0 : Int) ≤ 0; decide, by show (0 : Int) ≤ _; decide⟩
theorem Alike.rs {c : Cfg} {x : Img} {y : RImg} {n : Nat} (h : Alike c x y n) {oc : Int} {l : List UInt8} {j : Int} {z : Got} (hk : RS (c.shape oc undef) l j z) (g : 0 ≤ oc ∧ oc < 4) : RS ((x.vs.getD oc.toNat default)).sh l j z := by
  obtain ⟨q, hq⟩ := (h.p oc.toNat (by omega)).sh
  rw [hq, show ((oc.toNat : Nat) : Int) = oc from Int.toNat_of_nonneg g.1]
  exact hk
theorem took_vs (x : Img) (oc : Int) (t : Rcv × List UInt8 × Int) (k : Int) (z : Got) : ∃ f : Value → List Voice, ∀ sv, x.took oc t k z sv = { x with vs := f sv } :=
  ⟨fun sv => (x.took oc t k z sv).vs, fun sv => by unfold Img.took; split <;> rfl⟩
theorem rtook_es (x : RImg) (oc : Int) (t : Rcv × List UInt8 × Int) (k : Int) (z : Got) (ns : List Int) : ∃ f : Value → Value → List REar, ∀ sv v, x.took oc t k z sv v ns = { x with es := f sv v } :=
  ⟨fun sv v => (x.took oc t k z sv v ns).es, fun sv v => by unfold RImg.took; split <;> rfl⟩
theorem new_alike (c : Cfg) (p : Nat × Value) (y : RImg) (ps : List Nat) (hp : ps.length = 4) (hy : y.es = esOf c ps) : Alike c (newI c p) y 0 := by
  have pr : ∀ (k : Nat) (a : Value) (b : Nat), Pair c k (newV c k a) (newE c k b) 0 := fun k a b =>
    ⟨rfl, .inl ⟨rfl, rfl, rfl⟩, Nat.le_refl _, rfl, rfl, rfl, rfl, rfl, ⟨_, rfl⟩, fun h => absurd h (by show ¬ (0 : Int) ≤ -1; decide), fun h => absurd h (by show ¬ (0 : Int) ≤ -1; decide), fun h => absurd h (by show ¬ (0 : Int) ≤ -1; decide), fun h => absurd h (by show ¬ (0 : Int) ≤ -1; decide), ⟨Nat.zero_le _, Nat.zero_le _, Nat.zero_le _, Nat.zero_le _⟩⟩
  match ps, hp with
  | [a, b, d, e], _ =>
    refine ⟨rfl, rfl, rfl, rfl, rfl, by rw [hy]; rfl, fun k hk => ?_⟩
    rw [hy]
    match k, hk with
    | 0, _ => exact pr 0 _ a
    | 1, _ => exact pr 1 _ b
    | 2, _ => exact pr 2 _ d
    | 3, _ => exact pr 3 _ e
def rI (c : Cfg) (p : Nat × Value) : RImg := ⟨p.1, cA p.2 0, cA p.2 1, cA p.2 2, esOf c [pB (cA p.2 3), pB (cA p.2 4), pB (cA p.2 5), pB (cA p.2 6)]⟩
theorem rnewI_spec' (g : Cfg) (w : World) (S : BSet) (hS : (sepL []).sat S w) : Tri Try.prog 16 #[.agg (cfgC g).toArray] w S fun u A => ∃ p : Nat × Value, u = ptr p.1 0 ∧ A = [rimgH g (rI g p)] := by
  refine tri_turn (rnewI_spec g w S hS) ?_
  rintro _ _ ⟨⟨pb, rv, sv, tv, es⟩, rfl, ⟨ps, h, he⟩, rfl⟩
  match ps, h with
  | [a, b, d, e], _ =>
    dsimp only at he
    subst he
    exact ⟨_, ⟨(pb, .agg #[rv, sv, tv, ptr a 0, ptr b 0, ptr d 0, ptr e 0]), rfl, rfl⟩, fun w h => h⟩
theorem new_alike' (c : Cfg) (p q : Nat × Value) : Alike c (newI c p) (rI c q) 0 := new_alike c p _ [pB (cA q.2 3), pB (cA q.2 4), pB (cA q.2 5), pB (cA q.2 6)] rfl rfl
end Go.Proofs.Ytamofjpadnnppaa
namespace Go.Proofs.Ytamofjpadnnppaa
open Go.RowKit Go.BK
def gL (v : Value) : Cfg := ⟨v, (.slice none 0 0), (.slice none 0 0), (.slice none 0 0), (.slice none 0 0), [⟨0, 0, 0⟩], [], [], 2, 0, 0, 0⟩
def sL : Said := ⟨0, 1, 5, [1, 0]⟩
theorem sL_small : sL.small := ⟨by decide, by decide, by decide, by decide⟩
theorem tL : takeF (Rcv.new ((0 : Nat) : Int) 2) 5 (sL, 0) = (⟨5, 0, 1, 0, 2⟩, [1, 0], 0) := by kernel_rfl
theorem gL_small (v : Value) : (gL v).Small := ⟨by show 1 ≤ 1048576; decide, Nat.zero_le _, Nat.zero_le _⟩
theorem gL_lS (v : Value) : (gL v).lS 0 = [0] := by kernel_rfl
theorem gL_lP (v : Value) : (gL v).lP 0 = [] := by kernel_rfl
theorem rL (v q : Value) : RS ((gL v).shape 0 q) [1, 0] 0 ([0], [], [], []) := by
  left
  refine ⟨?_, rfl, ?_⟩
  · show good4 [1, 0] 1 ((gL v).lS 0).length ((gL v).lP 0).length 0 0 1 2 1 1
    rw [gL_lS, gL_lP]
    exact ⟨rfl, rfl, rfl, rfl, rfl, rfl⟩
  · show _ = (tpart [1, 0] 1 ((gL v).lS 0).length, tpart [1, 0] (1 + ((gL v).lS 0).length) ((gL v).lP 0).length, tpart [1, 0] (1 + ((gL v).lS 0).length + ((gL v).lP 0).length) 0, tpart [1, 0] (1 + ((gL v).lS 0).length + ((gL v).lP 0).length + 0) 0)
    rw [gL_lS, gL_lP]
    rfl
def xL (v : Value) (p : Nat × Value) (sv : Value) : Img := (newI (gL v) p).took 0 (⟨5, 0, 1, 0, 2⟩, [1, 0], 0) 0 ([0], [], [], []) sv
theorem xL_ok (v : Value) (p : Nat × Value) (sv : Value) : ∃ y n, Alike (gL v) (xL v p sv) y n := by
  obtain ⟨F, hF⟩ : ∃ F, makeF sL = (F, 0) := ⟨_, make_ok sL_small⟩
  obtain ⟨hr, hl⟩ := make_back hF
  have h0 := new_alike (gL v) p ⟨0, (.slice none 0 0), (.slice none 0 0), (.slice none 0 0), esOf (gL v) [0, 0, 0, 0]⟩ [0, 0, 0, 0] rfl rfl
  exact ⟨_, _, h0.step (gL_small v) (oc := 0) hr tL (fun _ => rL v undef) sv sv sv⟩
theorem xL_a (v : Value) (p : Nat × Value) (sv : Value) : aliveP (xL v p sv).st 7 (xL v p sv).c.age 0 = true := by kernel_rfl
theorem xL_b (v : Value) (p : Nat × Value) (sv : Value) : aliveP (xL v p sv).st 8 (xL v p sv).c.age 0 = false := by kernel_rfl
theorem xL_occ7 (v : Value) (p : Nat × Value) (sv : Value) : (xL v p sv).occ 7 (xL v p sv).c.secs.length = [(0, 5, true)] := by kernel_rfl
theorem xL_occ8 (v : Value) (p : Nat × Value) (sv : Value) : (xL v p sv).occ 8 (xL v p sv).c.secs.length = [(1, -1, false)] := by kernel_rfl
theorem lives11_spec  (w : World) (S : BSet) (hS : (sepL []).sat S w)  :
    Tri Try.prog 7 #[] w S fun u A => u = .bool true ∧ A = [] := by
  refine Tri.enter (l := []) Try.func7 rfl Try.ntmps7 rfl [] (subA rfl) hS ?_
  obtain ⟨F, hF⟩ : ∃ F, makeF (Said.mk 0 1 5 [1, 0]) = (F, 0) := ⟨_, make_ok sL_small⟩
  obtain ⟨hr, hl⟩ := make_back hF
  repeat first
    | (apply WL.q; exact rfl; exact rfl; exact rfl; (first | (apply EvW.assign; exact rfl) | (apply EvW.build; exact PlC.eq; exact ZvC.eq; exact rfl; exact rfl; (focus ((repeat (first | exact Fills.nil | (apply Fills.cons; exact rfl; (first | assumption | exact rfl); exact rfl) | exact SetMany.nil | apply SetMany.cons | apply SetMany.succ)); done)))))
    | refine WC.seq ?_ | refine WC.region ?_ | refine WL.nil ?_ | refine WE.next ?_
  try refine WL.wanted rfl rfl rfl ?_
  (apply WL.buildSlice; exact rfl; exact UndC.eq; exact SzC.eq; exact ZvC.eq; exact rfl; exact rfl; exact rfl; ((focus ((repeat (first | exact Flat.nil | (apply Flat.one; (first | exact rfl | assumption)) | (apply Flat.cons; exact rfl; exact rfl))); done))); exact rfl; exact rfl; intro k0)
  repeat first
    | (apply WL.q; exact rfl; exact rfl; exact rfl; (first | (apply EvW.build; exact PlC.eq; exact ZvC.eq; exact rfl; exact rfl; (focus ((repeat (first | exact Fills.nil | (apply Fills.cons; exact rfl; (first | assumption | exact rfl); exact rfl) | exact SetMany.nil | apply SetMany.cons | apply SetMany.succ)); done)))))
  try refine WL.wanted rfl rfl rfl ?_
  apply WL.callA ([])
  · exact rfl
  · exact rfl
  · exact fun w => Try.call8 _ w
  · (focus ((repeat constructor); done))
  · exact fun w1 S1 hS1 hs1 ho1 => newI_spec (gL (.slice (some ⟨k0, 0, none⟩) 1 1)) w1 S1 hS1 ⟨((ho1 (.blk k0 #[i64 0, i64 0, i64 0] 47) _ (by repeat constructor)).blkRow rfl (fun k u h => by simpa [secC, gL] using h) (by decide)), Sees.nilRow, Sees.nilRow, by show 1 ≤ _; decide, Nat.zero_le _, Nat.zero_le _⟩ (gL_small _)
  rintro _ _ ⟨p, rfl, rfl⟩
  first | refine WL.app4 ?_ | refine WL.app3 ?_ | refine WL.app2 ?_ | refine WL.app1 ?_ | refine WL.app0 ?_ | skip
  repeat first
    | (apply WL.q; exact rfl; exact rfl; exact rfl; (first | (apply EvW.assign; exact rfl)))
    | refine WC.seq ?_ | refine WC.region ?_ | refine WL.nil ?_ | refine WE.next ?_
  try refine WL.wanted rfl rfl rfl ?_
  apply WL.callA ([])
  · exact rfl
  · exact rfl
  · exact fun w => Try.call14 _ w
  · (focus ((repeat constructor); done))
  · exact fun w1 S1 hS1 hs1 ho1 => rmake_spec ⟨0, 1, 5, [1, 0]⟩ w1 S1 hS1 (by show 2 ≤ _; decide) (by show (0 : Int) ≤ _; decide) (by show (1 : Int) ≤ _; decide) (by show (5 : Int) ≤ _; decide)
  rintro _ _ ⟨rfl, rfl⟩
  first | refine WL.app4 ?_ | refine WL.app3 ?_ | refine WL.app2 ?_ | refine WL.app1 ?_ | refine WL.app0 ?_ | skip
  rw [hF]
  dsimp only
  repeat first
    | (apply WL.q; exact rfl; exact rfl; exact rfl; (first | (apply EvW.move; exact rfl) | (apply EvW.assign; exact rfl) | (apply EvW.extract; exact rfl; exact rfl) | (apply EvW.peqN; exact rfl; exact rfl; exact UndC.eq)))
    | refine WC.seq ?_ | refine WC.region ?_ | refine WL.nil ?_ | refine WE.next ?_ | refine WL.wanted rfl rfl rfl ?_
  obtain ⟨v, hv⟩ : ∃ v, (Value.slice (some ⟨k0, 0, none⟩) 1 1) = v := ⟨_, rfl⟩
  rw [hv]
  have hal := new_alike (gL v) p ⟨0, (.slice none 0 0), (.slice none 0 0), (.slice none 0 0), esOf (gL v) [0, 0, 0, 0]⟩ [0, 0, 0, 0] rfl rfl
  try refine WL.wanted rfl rfl rfl ?_
  apply WL.callA ([imgH (newI (gL v) p)])
  · exact rfl
  · exact rfl
  · exact fun w => Try.call9 _ w
  · (focus ((repeat constructor); done))
  · exact fun w1 S1 hS1 hs1 ho1 => takeI_spec (newI (gL v) p) 5 0 F (Said.mk 0 1 5 [1, 0]) 0 0 ([0], [], [], []) (⟨5, 0, 1, 0, 2⟩, [1, 0], 0) w1 S1 hS1 (hal.xok (gL_small v)) (by omega) (by decide) hr tL (by show (0 : Int) ≤ 0; decide) (by show (0 : Int) ≤ _; decide) (fun _ => rL v _) (by show 2 ≤ _; decide)
  rintro _ _ ⟨sv, rfl, rfl⟩
  first | refine WL.app4 ?_ | refine WL.app3 ?_ | refine WL.app2 ?_ | refine WL.app1 ?_ | refine WL.app0 ?_ | skip
  rw [show tookE 0 ((⟨5, 0, 1, 0, 2⟩, [1, 0], 0) : Rcv × List UInt8 × Int) 0 = 0 from by kernel_rfl]
  obtain ⟨y, n, hA⟩ := xL_ok v p sv
  have hX : (newI (gL v) p).took 0 (⟨5, 0, 1, 0, 2⟩, [1, 0], 0) 0 ([0], [], [], []) sv = xL v p sv := rfl
  rw [hX]
  have hok := hA.xok (gL_small v)
  have e1 := xL_a v p sv
  have e2 := xL_b v p sv
  have e3 := xL_occ7 v p sv
  have e4 := xL_occ8 v p sv
  have e5 : p.1 = (xL v p sv).b := by kernel_rfl
  generalize xL v p sv = x at hA hok e1 e2 e3 e4 e5
  rw [e5]
  repeat first
    | (apply WL.q; exact rfl; exact rfl; exact rfl; (first | (apply EvW.move; exact rfl) | (apply EvW.cmpF; exact rfl; exact rfl; exact rfl; omega) | (apply EvW.pickF; exact rfl; exact rfl)))
    | refine WC.seq ?_ | refine WC.region ?_ | refine WL.nil ?_ | refine WE.next ?_ | refine WC.skip ?_ | refine WC.condF rfl ?_ | refine WL.wanted rfl rfl rfl ?_
  try refine WL.wanted rfl rfl rfl ?_
  apply WL.callA ([])
  · exact rfl
  · exact rfl
  · exact fun w => Try.call10 _ w
  · (focus ((repeat constructor); done))
  · exact fun w1 S1 hS1 hs1 ho1 => view_spec x 7 w1 S1 hS1 (img_seen (ho1 (imgH x) _ (by repeat constructor)) hok) (by decide) hok.small (hA.sound 7)
  rintro _ _ ⟨a1, a2, a3, a4, rfl, rfl⟩
  first | refine WL.app4 ?_ | refine WL.app3 ?_ | refine WL.app2 ?_ | refine WL.app1 ?_ | refine WL.app0 ?_ | skip
  obtain ⟨L7, hL7⟩ : ∃ L, x.occ 7 x.c.secs.length = L := ⟨_, rfl⟩
  have hn7 : L7.length = 1 := by rw [← hL7, e3]; rfl
  have hg7 : L7.getD ((0 : Int)).toNat default = (0, 5, true) := by rw [← hL7, e3]; rfl
  rw [hL7]
  repeat first
    | (apply WL.q; exact rfl; exact rfl; exact rfl; (first | (apply EvW.move; exact rfl)))
  try refine WL.wanted rfl rfl rfl ?_
  apply WL.callA ([])
  · exact rfl
  · exact rfl
  · exact fun w => Try.call10 _ w
  · (focus ((repeat constructor); done))
  · exact fun w1 S1 hS1 hs1 ho1 => view_spec x 8 w1 S1 hS1 (img_seen (ho1 (imgH x) _ (by repeat constructor)) hok) (by decide) hok.small (hA.sound 8)
  rintro _ _ ⟨b1, b2, b3, b4, rfl, rfl⟩
  first | refine WL.app4 ?_ | refine WL.app3 ?_ | refine WL.app2 ?_ | refine WL.app1 ?_ | refine WL.app0 ?_ | skip
  obtain ⟨L8, hL8⟩ : ∃ L, x.occ 8 x.c.secs.length = L := ⟨_, rfl⟩
  have hn8 : L8.length = 1 := by rw [← hL8, e4]; rfl
  have hg8 : L8.getD ((0 : Int)).toNat default = (1, -1, false) := by rw [← hL8, e4]; rfl
  rw [hL8]
  skip
  try refine WL.wanted rfl rfl rfl ?_
  (apply WL.alloc; exact rfl; exact ZvC.eq; exact rfl; intro q1)
  skip
  try refine WL.wanted rfl rfl rfl ?_
  (apply WL.alloc; exact rfl; exact ZvC.eq; exact rfl; intro q2)
  (first | refine WL.slOwn (v := a1) (by repeat constructor) ?_ | refine WC.slOwn (v := a1) (by repeat constructor) ?_)
  intro hc_a1 ho_a1
  (first | refine WL.slOwn (v := a2) (by repeat constructor) ?_ | refine WC.slOwn (v := a2) (by repeat constructor) ?_)
  intro hc_a2 ho_a2
  (first | refine WL.slOwn (v := a3) (by repeat constructor) ?_ | refine WC.slOwn (v := a3) (by repeat constructor) ?_)
  intro hc_a3 ho_a3
  (first | refine WL.slOwn (v := a4) (by repeat constructor) ?_ | refine WC.slOwn (v := a4) (by repeat constructor) ?_)
  intro hc_a4 ho_a4
  (first | refine WL.slOwn (v := b1) (by repeat constructor) ?_ | refine WC.slOwn (v := b1) (by repeat constructor) ?_)
  intro hc_b1 ho_b1
  (first | refine WL.slOwn (v := b2) (by repeat constructor) ?_ | refine WC.slOwn (v := b2) (by repeat constructor) ?_)
  intro hc_b2 ho_b2
  (first | refine WL.slOwn (v := b3) (by repeat constructor) ?_ | refine WC.slOwn (v := b3) (by repeat constructor) ?_)
  intro hc_b3 ho_b3
  (first | refine WL.slOwn (v := b4) (by repeat constructor) ?_ | refine WC.slOwn (v := b4) (by repeat constructor) ?_)
  intro hc_b4 ho_b4
  have hall1 : ([a1, a2, a3, a4] : List Value).all (·.oneCell') = true := by
    simp at ho_a1 ho_a2 ho_a3 ho_a4
    simp [ho_a1, ho_a2, ho_a3, ho_a4]
  have hall2 : ([b1, b2, b3, b4] : List Value).all (·.oneCell') = true := by
    simp at ho_b1 ho_b2 ho_b3 ho_b4
    simp [ho_b1, ho_b2, ho_b3, ho_b4]
  clear hc_a1 hc_a2 hc_a3 hc_a4 hc_b1 hc_b2 hc_b3 hc_b4 ho_a1 ho_a2 ho_a3 ho_a4 ho_b1 ho_b2 ho_b3 ho_b4
  repeat first
    | (apply WL.q; exact rfl; exact rfl; exact rfl; (first | (apply EvW.move; exact rfl) | (apply EvW.fieldAddr0; exact rfl; exact FldC.eq) | (apply EvW.load; exact rfl; exact ScalC.eq; (focus ((repeat constructor); done)); exact rfl) | (apply EvW.cmpT; exact rfl; exact rfl; exact rfl; omega) | (apply EvW.pickT; exact rfl; exact rfl) | (apply EvW.lenOwn; exact rfl; exact UndC.eq; (focus ((repeat constructor); done))) | (apply EvW.idxOwn; exact rfl; exact rfl; exact UndC.eq; exact SzC.eq; (focus ((repeat constructor); done)); omega; omega)))
    | refine WC.seq ?_ | refine WC.region ?_ | refine WL.nil ?_ | refine WE.next ?_ | refine WL.wanted rfl rfl rfl ?_ | (apply WL.store; exact rfl; exact rfl; (first | assumption | exact rfl); exact SzC.eq; (first | assumption | exact rfl); (focus ((repeat constructor); done)))
  try refine WL.wanted rfl rfl rfl ?_
  (apply WL.q; exact rfl; exact rfl; exact rfl; (apply EvW.ldElemOwn (xs := L7) (z := (default : Int × Int × Bool)) (f := lkC); exact rfl; exact AggC.eq; exact SzC.eq; exact rfl; exact fun _ => rfl; (focus ((repeat constructor); done)); omega))
  rw [hg7]
  repeat first
    | (apply WL.q; exact rfl; exact rfl; exact rfl; (first | (apply EvW.build; exact PlC.eq; exact ZvC.eq; exact rfl; exact rfl; (focus ((repeat (first | exact Fills.nil | (apply Fills.cons; exact rfl; (first | assumption | exact rfl); exact rfl) | exact SetMany.nil | apply SetMany.cons | apply SetMany.succ)); done)))))
    | refine WL.wanted rfl rfl rfl ?_
  (apply WL.q; exact rfl; exact rfl; exact rfl; (apply EvW.eqMix [(0, false), (1, false), (2, true)] (l := lkC (0, 5, true)); exact rfl; exact rfl; kernel_rfl; exact rfl))
  repeat first
    | (apply WL.q; exact rfl; exact rfl; exact rfl; (first | (apply EvW.move; exact rfl) | (apply EvW.fieldAddr0; exact rfl; exact FldC.eq) | (apply EvW.load; exact rfl; exact ScalC.eq; (focus ((repeat constructor); done)); exact rfl) | (apply EvW.pickT; exact rfl; exact rfl) | (apply EvW.idxOwn; exact rfl; exact rfl; exact UndC.eq; exact SzC.eq; (focus ((repeat constructor); done)); omega; omega)))
    | refine WL.wanted rfl rfl rfl ?_
  try refine WL.wanted rfl rfl rfl ?_
  (apply WL.q; exact rfl; exact rfl; exact rfl; (apply EvW.ldElemOwn (xs := L8) (z := (default : Int × Int × Bool)) (f := lkC); exact rfl; exact AggC.eq; exact SzC.eq; exact rfl; exact fun _ => rfl; (focus ((repeat constructor); done)); omega))
  rw [hg8]
  repeat first
    | (apply WL.q; exact rfl; exact rfl; exact rfl; (first | (apply EvW.build; exact PlC.eq; exact ZvC.eq; exact rfl; exact rfl; (focus ((repeat (first | exact Fills.nil | (apply Fills.cons; exact rfl; (first | assumption | exact rfl); exact rfl) | exact SetMany.nil | apply SetMany.cons | apply SetMany.succ)); done)))))
    | refine WL.wanted rfl rfl rfl ?_
  (apply WL.q; exact rfl; exact rfl; exact rfl; (apply EvW.eqMix [(0, false), (1, false), (2, true)] (l := lkC (1, -1, false)); exact rfl; exact rfl; kernel_rfl; exact rfl))
  repeat first
    | (apply WL.q; exact rfl; exact rfl; exact rfl; (first | (apply EvW.move; exact rfl) | (apply EvW.pickT; exact rfl; exact rfl)))
    | refine WL.wanted rfl rfl rfl ?_
  try refine WL.wanted rfl rfl rfl ?_
  apply WL.callA ([])
  · exact rfl
  · exact rfl
  · exact fun w => Try.call15 _ w
  · (focus ((repeat constructor); done))
  · exact fun w1 S1 hS1 hs1 ho1 => aliveI_spec x 7 0 true w1 S1 hS1 (img_seen (ho1 (imgH x) _ (by repeat constructor)) hok) (by decide) e1
  rintro _ _ ⟨rfl, rfl⟩
  first | refine WL.app4 ?_ | refine WL.app3 ?_ | refine WL.app2 ?_ | refine WL.app1 ?_ | refine WL.app0 ?_ | skip
  repeat first
    | (apply WL.q; exact rfl; exact rfl; exact rfl; (first | (apply EvW.move; exact rfl) | (apply EvW.pickT; exact rfl; exact rfl)))
    | refine WL.wanted rfl rfl rfl ?_
  try refine WL.wanted rfl rfl rfl ?_
  apply WL.callA ([])
  · exact rfl
  · exact rfl
  · exact fun w => Try.call15 _ w
  · (focus ((repeat constructor); done))
  · exact fun w1 S1 hS1 hs1 ho1 => aliveI_spec x 8 0 false w1 S1 hS1 (img_seen (ho1 (imgH x) _ (by repeat constructor)) hok) (by decide) e2
  rintro _ _ ⟨rfl, rfl⟩
  first | refine WL.app4 ?_ | refine WL.app3 ?_ | refine WL.app2 ?_ | refine WL.app1 ?_ | refine WL.app0 ?_ | skip
  repeat first
    | (apply WL.q; exact rfl; exact rfl; exact rfl; (first | (apply EvW.assign; exact rfl) | (apply EvW.pickT; exact rfl; exact rfl) | (apply EvW.notF; exact rfl)))
    | refine WL.nil ?_ | refine WE.next ?_ | refine WC.ret ?_ | refine WL.wanted rfl rfl rfl ?_
  refine WE.keep (xs := []) (by repeat constructor) ?_
  refine WE.ret1 rfl rfl ?_
  exact ⟨rfl, rfl⟩
end Go.Proofs.Ytamofjpadnnppaa
namespace Go.Proofs.Ytamofjpadnnppaa
open Go.RowKit Go.BK
/-- A text that comes from a controller at a time. -/
structure Came where
  now : Int
  oc : Int
  t : List UInt8
instance : Inhabited Came := ⟨⟨0, 0, []⟩⟩
def cameC (c : Came) : List Value := [i64 c.now, i64 c.oc, str c.t]
def Came.ok (c : Came) : Prop := c.now ≤ 9223372036854775807 ∧ c.t.length ≤ 1048576
theorem came_at {cs : List Came} (h : ∀ c ∈ cs, c.ok) {i : Nat} (hi : i < cs.length) : (cs.getD i default).ok := by
  rw [List.getD_eq_getElem?_getD, List.getElem?_eq_getElem hi]
  exact h _ (List.getElem_mem hi)
theorem takeF_len (m : Rcv) (now : Int) {y : Said} (e : Int) (h : y.small) : (takeF m now (y, e)).2.1.length ≤ 1000 := by
  have := h.t
  unfold takeF
  dsimp only
  split
  · simp
  split
  · simp
  split
  · simp
  split
  · simp
  split
  · simp
  exact this
set_option maxHeartbeats 4000000 in
set_option maxRecDepth 8000 in
theorem imageTakes_law (g : Cfg) (cv : Value) (cs : List Came) (w : World) (S : BSet) (hS : (sepL []).sat S w) (hg : g.Seen w S) (hsm : g.Small) (hv : Sees w S (.row 3 cv cs.length (cs.flatMap cameC))) (hn : cs.length ≤ 1048576) (hc : ∀ c ∈ cs, c.ok) :
    Tri Try.prog 5 #[.agg (cfgC g).toArray, cv] w S fun u A => u = .bool true := by
  refine Tri.enter (l := [.agg (cfgC g).toArray, cv]) Try.func5 rfl Try.ntmps5 rfl [(0, .agg (cfgC g).toArray), (1, cv)] (subA rfl) hS ?_
  repeat first
    | refine WC.seq ?_ | refine WC.region ?_
  try refine WL.wanted rfl rfl rfl ?_
  (apply WL.box; exact rfl; exact rfl; exact rfl; intro q0)
  repeat first
    | (apply WL.q; exact rfl; exact rfl; exact rfl; (first | (apply EvW.assign; exact rfl)))
    | refine WC.seq ?_ | refine WC.region ?_ | refine WL.nil ?_ | refine WE.next ?_
  try refine WL.wanted rfl rfl rfl ?_
  apply WL.callA ([])
  · exact rfl
  · exact rfl
  · exact fun w => Try.call7 _ w
  · (focus ((repeat constructor); done))
  · exact fun w1 S1 hS1 hs1 ho1 => lives11_spec w1 S1 hS1
  rintro _ _ ⟨rfl, rfl⟩
  first | refine WL.app4 ?_ | refine WL.app3 ?_ | refine WL.app2 ?_ | refine WL.app1 ?_ | refine WL.app0 ?_ | skip
  repeat first
    | (apply WL.q; exact rfl; exact rfl; exact rfl; (first | (apply EvW.notT; exact rfl)))
    | refine WC.seq ?_ | refine WL.nil ?_ | refine WE.next ?_ | refine WC.skip ?_ | refine WC.condF rfl ?_
  repeat refine WC.seq ?_
  refine WC.keep (xs := [.blk q0 (cfgC g).toArray 30]) (by repeat constructor) ?_
  apply WC.par _ (fun c : Ch => [.blk q0 (cfgC g).toArray 30, imgH (newI g ((c 1).1, (c 1).2)), rimgH g (rI g ((c 3).1, (c 3).2)), imgH (newI g ((c 5).1, (c 5).2))]) [none, some 1, some 3, some 5] [none, none, none, none] [(1, fun x => ptr x.1 0), (3, fun x => ptr x.1 0), (5, fun x => ptr x.1 0)] Try.mixed
  · (focus ((repeat (first | exact Restr.nil | (apply Restr.keep; exact rfl; exact rfl) | (apply Restr.drop; exact rfl))); done))
  · intro c; exact (by repeat constructor)
  · exact rfl
  · decide +kernel
  · decide +kernel
  · intro c
    (apply Par.quiet _ [true, false, false, false]; exact rfl; decide +kernel; exact rfl; intro R; refine ⟨_, (by repeat constructor), ?_⟩;
         (first | (apply EvW.loadAgg; exact rfl; exact AggC.eq; exact SzC.eq; (focus ((repeat constructor); done)); (focus ((repeat (first | exact SubL.nil | apply SubL.cons | apply SubL.succ)); done)))))
    apply Par.new _ [false, false, false, false] [false, true, false, false] [true, false, false, false]
    · exact rfl
    · exact rfl
    · decide +kernel
    · intro R
      refine ⟨_, _, _, (by repeat constructor), (by repeat constructor), (fun x => (by repeat constructor)), ?_⟩
      apply NewW.call (fun x => [imgH (newI g (x.1, x.2))])
      · exact rfl
      · exact fun w1 S1 hS1 hs1 ho1 => newI_spec g w1 S1 hS1 (hg.down hs1) hsm
      · exact fun w => Try.call8 _ w
      · (focus ((repeat constructor); done))
      · rintro _ _ ⟨p, rfl, rfl⟩; exact ⟨p, rfl, rfl⟩
      · exact fun x _ h => TakeT.st (by (focus ((repeat (first | exact TakeT.tail | apply TakeT.cons | exact Take.head | apply Take.tail | apply TakeT.drop)); done))) h
    (apply Par.quiet _ [true, false, false, false]; exact rfl; decide +kernel; exact rfl; intro R; refine ⟨_, (by repeat constructor), ?_⟩;
         (first | (apply EvW.loadAgg; exact rfl; exact AggC.eq; exact SzC.eq; (focus ((repeat constructor); done)); (focus ((repeat (first | exact SubL.nil | apply SubL.cons | apply SubL.succ)); done)))))
    apply Par.new _ [false, false, false, false] [false, false, true, false] [true, true, false, false]
    · exact rfl
    · exact rfl
    · decide +kernel
    · intro R
      refine ⟨_, _, _, (by repeat constructor), (by repeat constructor), (fun x => (by repeat constructor)), ?_⟩
      apply NewW.call (fun x => [rimgH g (rI g (x.1, x.2))])
      · exact rfl
      · exact fun w1 S1 hS1 hs1 ho1 => rnewI_spec' g w1 S1 hS1
      · exact fun w => Try.call16 _ w
      · (focus ((repeat constructor); done))
      · rintro _ _ ⟨p, rfl, rfl⟩; exact ⟨p, rfl, rfl⟩
      · exact fun x _ h => TakeT.st (by (focus ((repeat (first | exact TakeT.tail | apply TakeT.cons | exact Take.head | apply Take.tail | apply TakeT.drop)); done))) h
    (apply Par.quiet _ [true, false, false, false]; exact rfl; decide +kernel; exact rfl; intro R; refine ⟨_, (by repeat constructor), ?_⟩;
         (first | (apply EvW.loadAgg; exact rfl; exact AggC.eq; exact SzC.eq; (focus ((repeat constructor); done)); (focus ((repeat (first | exact SubL.nil | apply SubL.cons | apply SubL.succ)); done)))))
    apply Par.new _ [false, false, false, false] [false, false, false, true] [true, true, true, false]
    · exact rfl
    · exact rfl
    · decide +kernel
    · intro R
      refine ⟨_, _, _, (by repeat constructor), (by repeat constructor), (fun x => (by repeat constructor)), ?_⟩
      apply NewW.call (fun x => [imgH (newI g (x.1, x.2))])
      · exact rfl
      · exact fun w1 S1 hS1 hs1 ho1 => newI_spec g w1 S1 hS1 (hg.down hs1) hsm
      · exact fun w => Try.call8 _ w
      · (focus ((repeat constructor); done))
      · rintro _ _ ⟨p, rfl, rfl⟩; exact ⟨p, rfl, rfl⟩
      · exact fun x _ h => TakeT.st (by (focus ((repeat (first | exact TakeT.tail | apply TakeT.cons | exact Take.head | apply Take.tail | apply TakeT.drop)); done))) h
    (apply Par.quiet _ [true, true, true, true]; exact rfl; decide +kernel; exact rfl; intro R; refine ⟨_, (by repeat constructor), ?_⟩;
         (first | (apply EvW.assign; exact rfl)))
    (apply Par.quiet _ [true, true, true, true]; exact rfl; decide +kernel; exact rfl; intro R; refine ⟨_, (by repeat constructor), ?_⟩;
         (first | (apply EvW.assign; exact rfl)))
    (apply Par.quiet _ [true, true, true, true]; exact rfl; decide +kernel; exact rfl; intro R; refine ⟨_, (by repeat constructor), ?_⟩;
         (first | (apply EvW.assign; exact rfl)))
    exact Par.nil
  · repeat (first | exact AllN.nil | (apply AllN.cons; (intro c x; (repeat (first | exact IndA.nil | (apply IndA.skip; decide +kernel) | apply IndA.same))))) 
  · repeat (first | exact AllN.nil | (apply AllN.cons; (intro c x; (repeat (first | exact IndT.nil | (apply IndT.skip; decide +kernel) | apply IndT.same))))) 
  · exact fun _ => rfl
  intro c
  refine ⟨_, (by repeat constructor), ?_⟩
  apply WE.writ
  · (focus ((repeat (first | exact Writ.nil | apply Writ.some | apply Writ.none)); done))
  generalize (c 1).1 = b1
  generalize (c 3).1 = b3
  generalize (c 5).1 = b5
  generalize (c 1).2 = p2
  generalize (c 3).2 = r2
  generalize (c 5).2 = o2
  obtain ⟨o, ho⟩ : ∃ o, (b5, o2) = o := ⟨_, rfl⟩
  obtain ⟨p, hp⟩ : ∃ p, (b1, p2) = p := ⟨_, rfl⟩
  obtain ⟨r, hr⟩ : ∃ r, (b3, r2) = r := ⟨_, rfl⟩
  have hA0 := new_alike' g p r
  have hO := (new_alike' g o r)
  rw [ho, hp, hr]
  have e1 : b1 = (newI g p).b := by rw [← hp]; rfl
  have e3 : b3 = (rI g r).b := by rw [← hr]; rfl
  have e5 : b5 = (newI g o).b := by rw [← ho]; rfl
  rw [e1, e3, e5]
  obtain ⟨X, hX⟩ : ∃ X, newI g p = X := ⟨_, rfl⟩
  obtain ⟨Y, hY⟩ : ∃ Y, rI g r = Y := ⟨_, rfl⟩
  rw [hX, hY] at hA0 ⊢
  clear hX hY e1 e3 e5 ho hp hr
  obtain ⟨xb, xc, xv, xs⟩ := X
  obtain ⟨yb, yr, ys, yt, ye⟩ := Y
  dsimp only
  repeat first
    | (apply WL.q; exact rfl; exact rfl; exact rfl; (first | (apply EvW.move; exact rfl) | (apply EvW.lenRow; exact rfl; exact UndC.eq; assumption)))
    | refine WC.seq ?_ | refine WC.region ?_ | refine WL.nil ?_ | refine WE.next ?_ | refine WC.block ?_
  refine WC.loopK (σ := Nat × List Voice × List REar) [5, 6, 7, 24, 25] (fun s => [(26, i64 s.1)]) (fun s => [imgH (Img.mk xb xc xv s.2.1), rimgH g (RImg.mk yb yr ys yt s.2.2), imgH (newI g o), .blk q0 (cfgC g).toArray 30]) (fun s => s.1 ≤ cs.length ∧ Alike g (Img.mk xb xc xv s.2.1) (RImg.mk yb yr ys yt s.2.2) s.1) (fun s => cs.length - s.1) (0, xs, ye) (by (focus ((repeat (first | exact Pick.nil | (apply Pick.cons; exact rfl))); done))) (by (focus ((repeat (first | exact trivial | (refine ⟨rfl, ?_⟩))); done))) (fun _ h => h.keep (by repeat constructor)) ⟨Nat.zero_le _, hA0⟩ (fun s hs => ?_)
  obtain ⟨i, vs, es⟩ := s
  simp only [List.cons_append, List.nil_append] at hs ⊢
  obtain ⟨hi, hA⟩ := hs
  by_cases hlt : (i : Int) < cs.length
  · have hx := came_at hc (show i < cs.length by omega)
    repeat first
      | (apply WL.q; exact rfl; exact rfl; exact rfl; (first | (apply EvW.cmpT; exact rfl; exact rfl; exact rfl; omega) | (apply EvW.idxRow; exact rfl; exact rfl; exact UndC.eq; exact SzC.eq; assumption; omega; omega)))
      | refine WC.seq ?_ | refine WC.region ?_ | refine WL.nil ?_ | refine WE.next ?_ | refine WC.block ?_ | refine WC.skip ?_ | refine WC.condT rfl ?_
    (apply WL.q; exact rfl; exact rfl; exact rfl; (apply EvW.ldElem (xs := cs) (z := (default : Came)) (f := cameC); exact rfl; exact AggC.eq; exact SzC.eq; exact rfl; exact fun _ => rfl; assumption; omega))
    try refine WL.wanted rfl rfl rfl ?_
    (apply WL.alloc; exact rfl; exact ZvC.eq; exact rfl; intro z)
    rw [show ((i : Nat) : Int).toNat = i from rfl]
    generalize cs.getD i default = cm at hx
    obtain ⟨hx1, hx2⟩ := hx
    obtain ⟨y, f, hy⟩ : ∃ q e, readF cm.t = (q, e) := ⟨_, _, rfl⟩
    obtain ⟨t, ht⟩ : ∃ t, takeF (es.getD cm.oc.toNat default).rc cm.now (y, f) = t := ⟨_, rfl⟩
    obtain ⟨ns, hns⟩ : ∃ ns, numsF (es.getD cm.oc.toNat default).rc cm.now (y, f) (es.getD cm.oc.toNat default).ns = ns := ⟨_, rfl⟩
    have htl := takeF_len (es.getD cm.oc.toNat default).rc cm.now f (readF_small hy)
    obtain ⟨k, zz, hk⟩ := RS.ex (g.shape cm.oc undef) t.2.1
    have hxt : takeF (vs.getD cm.oc.toNat default).rc cm.now (y, f) = t := by rw [hA.rcs]; exact ht
    have hnl := hA.nsl cm.oc.toNat
    have hlo := hA.lostA (by omega) cm.oc.toNat
    obtain ⟨tv, htv⟩ : ∃ f : Value → List Voice, ∀ sv, Img.took (Img.mk xb xc xv vs) cm.oc t k zz sv = (Img.mk xb xc xv (f sv)) := took_vs (Img.mk xb xc xv vs) cm.oc t k zz
    obtain ⟨te, hte⟩ : ∃ f : Value → Value → List REar, ∀ sv v, RImg.took (RImg.mk yb yr ys yt es) cm.oc t k zz sv v ns = (RImg.mk yb yr ys yt (f sv v)) := rtook_es (RImg.mk yb yr ys yt es) cm.oc t k zz ns
    have hstep : ∀ sv sv' nv, Alike g (Img.mk xb xc xv (tv sv)) (RImg.mk yb yr ys yt (te sv' nv)) (i + 1) := fun sv sv' nv => by
      have h := hA.step hsm hy ht (fun _ => hk) sv sv' nv
      dsimp only at h
      rw [hns, htv, hte] at h
      exact h
    rw [ht] at htl
    obtain ⟨b, hb⟩ : ∃ b, ∀ sv, aliveP (Img.mk xb xc xv (tv sv)).st cm.now xc.age cm.oc = b := ⟨_, fun sv => ((hstep sv undef undef).alive _ _).symm.trans ((hstep undef undef undef).alive _ _)⟩
    have hb' : ∀ sv nv, aliveP (RImg.mk yb yr ys yt (te sv nv)).st cm.now g.age cm.oc = b := fun sv nv => ((hstep undef sv nv).alive _ _).trans (hb undef)
    obtain ⟨n0, hn0⟩ : ∃ n0, ∀ sv, (Img.mk xb xc xv (tv sv)).lost 4 = n0 := ⟨_, fun sv => ((hstep sv undef undef).lost 4 (by decide)).trans ((hstep undef undef undef).lost 4 (by decide)).symm⟩
    have hn0' : ∀ sv nv, (RImg.mk yb yr ys yt (te sv nv)).lost 4 = n0 := fun sv nv => ((hstep undef sv nv).lost 4 (by decide)).symm.trans (hn0 undef)
    repeat first
      | refine WC.seq ?_ | refine WL.nil ?_ | refine WE.next ?_ | (apply WL.store; exact rfl; exact rfl; (first | assumption | exact rfl); exact SzC.eq; (first | assumption | exact rfl); (focus ((repeat constructor); done)))
    repeat refine WC.seq ?_
    refine WC.keep (xs := [.blk z #[i64 cm.now, i64 cm.oc, str cm.t] 36, imgH (Img.mk xb xc xv vs), rimgH g (RImg.mk yb yr ys yt es), imgH (newI g o), .blk q0 (cfgC g).toArray 30]) (by repeat constructor) ?_
    apply WC.par _ (fun c : Ch => [.blk z #[i64 cm.now, i64 cm.oc, str cm.t] 36, imgH (Img.mk xb xc xv vs), imgH (Img.mk xb xc xv (tv (c 7).2)), rimgH g (RImg.mk yb yr ys yt es), rimgH g (RImg.mk yb yr ys yt (te (cA (c 15).2 0) (cA (c 15).2 1))), imgH (newI g o), .blk q0 (cfgC g).toArray 30]) [none, none, some 7, none, some 15, none, none] [none, some 7, none, some 15, none, none, none] [(7, fun x => i64 (tookE cm.oc t k)), (15, fun x => i64 (tookE cm.oc t k))] Try.mixed
    · (focus ((repeat (first | exact Restr.nil | (apply Restr.keep; exact rfl; exact rfl) | (apply Restr.drop; exact rfl))); done))
    · intro c; exact (by repeat constructor)
    · exact rfl
    · decide +kernel
    · decide +kernel
    · intro c
      (apply Par.quiet _ [true, true, false, true, false, true, true]; exact rfl; decide +kernel; exact rfl; intro R; refine ⟨_, (by repeat constructor), ?_⟩;
           (first | (apply EvW.move; exact rfl)))
      (apply Par.quiet _ [true, true, false, true, false, true, true]; exact rfl; decide +kernel; exact rfl; intro R; refine ⟨_, (by repeat constructor), ?_⟩;
           (first | (apply EvW.fieldAddr0; exact rfl; exact FldC.eq)))
      (apply Par.quiet _ [true, true, false, true, false, true, true]; exact rfl; decide +kernel; exact rfl; intro R; refine ⟨_, (by repeat constructor), ?_⟩;
           (first | (apply EvW.load; exact rfl; exact ScalC.eq; (focus ((repeat constructor); done)); exact rfl)))
      (apply Par.quiet _ [true, true, false, true, false, true, true]; exact rfl; decide +kernel; exact rfl; intro R; refine ⟨_, (by repeat constructor), ?_⟩;
           (first | (apply EvW.fieldAddr0; exact rfl; exact FldC.eq)))
      (apply Par.quiet _ [true, true, false, true, false, true, true]; exact rfl; decide +kernel; exact rfl; intro R; refine ⟨_, (by repeat constructor), ?_⟩;
           (first | (apply EvW.load; exact rfl; exact ScalC.eq; (focus ((repeat constructor); done)); exact rfl)))
      (apply Par.quiet _ [true, true, false, true, false, true, true]; exact rfl; decide +kernel; exact rfl; intro R; refine ⟨_, (by repeat constructor), ?_⟩;
           (first | (apply EvW.fieldAddr0; exact rfl; exact FldC.eq)))
      (apply Par.quiet _ [true, true, false, true, false, true, true]; exact rfl; decide +kernel; exact rfl; intro R; refine ⟨_, (by repeat constructor), ?_⟩;
           (first | (apply EvW.load; exact rfl; exact ScalC.eq; (focus ((repeat constructor); done)); exact rfl)))
      apply Par.new _ [false, true, false, false, false, false, false] [false, false, true, false, false, false, false] [true, false, false, true, false, true, true]
      · exact rfl
      · exact rfl
      · decide +kernel
      · intro R
        refine ⟨_, _, _, (by repeat constructor), (by repeat constructor), (fun x => (by repeat constructor)), ?_⟩
        apply NewW.callA ([imgH (Img.mk xb xc xv vs)]) (fun x => [imgH (Img.mk xb xc xv (tv x.2))])
        · exact rfl
        · exact fun w => Try.call9 _ w
        · (focus ((repeat constructor); done))
        · exact fun w1 S1 hS1 hs1 ho1 => (by have h := takeI_spec (Img.mk xb xc xv vs) cm.now cm.oc cm.t y f k zz t w1 S1 hS1 (hA.xok hsm) (by omega) hx1 hy hxt hlo.1 hlo.2 (hA.rs hk) (by omega); simp only [htv] at h; exact h)
        · rintro _ _ ⟨sv, rfl, rfl⟩; exact ⟨(0, sv), rfl, rfl⟩
        · exact fun x _ h => TakeT.st (by (focus ((repeat (first | exact TakeT.tail | apply TakeT.cons | exact Take.head | apply Take.tail | apply TakeT.drop)); done))) h
      (apply Par.quiet _ [true, false, false, true, false, true, true]; exact rfl; decide +kernel; exact rfl; intro R; refine ⟨_, (by repeat constructor), ?_⟩;
           (first | (apply EvW.move; exact rfl)))
      (apply Par.quiet _ [true, false, false, true, false, true, true]; exact rfl; decide +kernel; exact rfl; intro R; refine ⟨_, (by repeat constructor), ?_⟩;
           (first | (apply EvW.fieldAddr0; exact rfl; exact FldC.eq)))
      (apply Par.quiet _ [true, false, false, true, false, true, true]; exact rfl; decide +kernel; exact rfl; intro R; refine ⟨_, (by repeat constructor), ?_⟩;
           (first | (apply EvW.load; exact rfl; exact ScalC.eq; (focus ((repeat constructor); done)); exact rfl)))
      (apply Par.quiet _ [true, false, false, true, false, true, true]; exact rfl; decide +kernel; exact rfl; intro R; refine ⟨_, (by repeat constructor), ?_⟩;
           (first | (apply EvW.fieldAddr0; exact rfl; exact FldC.eq)))
      (apply Par.quiet _ [true, false, false, true, false, true, true]; exact rfl; decide +kernel; exact rfl; intro R; refine ⟨_, (by repeat constructor), ?_⟩;
           (first | (apply EvW.load; exact rfl; exact ScalC.eq; (focus ((repeat constructor); done)); exact rfl)))
      (apply Par.quiet _ [true, false, false, true, false, true, true]; exact rfl; decide +kernel; exact rfl; intro R; refine ⟨_, (by repeat constructor), ?_⟩;
           (first | (apply EvW.fieldAddr0; exact rfl; exact FldC.eq)))
      (apply Par.quiet _ [true, false, false, true, false, true, true]; exact rfl; decide +kernel; exact rfl; intro R; refine ⟨_, (by repeat constructor), ?_⟩;
           (first | (apply EvW.load; exact rfl; exact ScalC.eq; (focus ((repeat constructor); done)); exact rfl)))
      apply Par.new _ [false, false, false, true, false, false, false] [false, false, false, false, true, false, false] [true, false, true, false, false, true, true]
      · exact rfl
      · exact rfl
      · decide +kernel
      · intro R
        refine ⟨_, _, _, (by repeat constructor), (by repeat constructor), (fun x => (by repeat constructor)), ?_⟩
        apply NewW.callA ([rimgH g (RImg.mk yb yr ys yt es)]) (fun x => [rimgH g (RImg.mk yb yr ys yt (te (cA x.2 0) (cA x.2 1)))])
        · exact rfl
        · exact fun w => Try.call17 _ w
        · (focus ((repeat constructor); done))
        · exact fun w1 S1 hS1 hs1 ho1 => (by have h := rtakeI_spec g (RImg.mk yb yr ys yt es) cm.now cm.oc cm.t y f k zz t ns w1 S1 hS1 (hg.down hs1) hA.yok (by omega) hx1 hy ht hns (Nat.le_trans hnl (by omega)) (fun _ => hk) (by omega) (shape_few hsm _ _); simp only [hte] at h; exact h)
        · rintro _ _ ⟨sv, nv, rfl, rfl⟩; exact ⟨(0, .agg #[sv, nv]), rfl, rfl⟩
        · exact fun x _ h => TakeT.st (by (focus ((repeat (first | exact TakeT.tail | apply TakeT.cons | exact Take.head | apply Take.tail | apply TakeT.drop)); done))) h
      (apply Par.quiet _ [true, false, true, false, true, true, true]; exact rfl; decide +kernel; exact rfl; intro R; refine ⟨_, (by repeat constructor), ?_⟩;
           (first | (apply EvW.cmpF; exact rfl; exact rfl; exact rfl; omega)))
      (apply Par.quiet _ [true, false, true, false, true, true, true]; exact rfl; decide +kernel; exact rfl; intro R; refine ⟨_, (by repeat constructor), ?_⟩;
           (first | (apply EvW.move; exact rfl)))
      first
        | (apply Par.skip; exact rfl; decide +kernel; exact rfl)
        | (apply Par.quiet _ [true, false, true, false, true, true, true]; exact rfl; decide +kernel; exact rfl; intro R; refine ⟨_, (by repeat constructor), ?_⟩;
           (first | (apply EvW.move; exact rfl)))
      first
        | (apply Par.skip; exact rfl; decide +kernel; exact rfl)
        | (apply Par.quiet _ [true, false, true, false, true, true, true]; exact rfl; decide +kernel; exact rfl; intro R; refine ⟨_, (by repeat constructor), ?_⟩;
           (first | (apply EvW.fieldAddr0; exact rfl; exact FldC.eq)))
      first
        | (apply Par.skip; exact rfl; decide +kernel; exact rfl)
        | (apply Par.quiet _ [true, false, true, false, true, true, true]; exact rfl; decide +kernel; exact rfl; intro R; refine ⟨_, (by repeat constructor), ?_⟩;
           (first | (apply EvW.load; exact rfl; exact ScalC.eq; (focus ((repeat constructor); done)); exact rfl)))
      first
        | (apply Par.skip; exact rfl; decide +kernel; exact rfl)
        | (apply Par.quiet _ [true, false, true, false, true, true, true]; exact rfl; decide +kernel; exact rfl; intro R; refine ⟨_, (by repeat constructor), ?_⟩;
           (first | (apply EvW.fieldAddr0; exact rfl; exact FldC.eq)))
      first
        | (apply Par.skip; exact rfl; decide +kernel; exact rfl)
        | (apply Par.quiet _ [true, false, true, false, true, true, true]; exact rfl; decide +kernel; exact rfl; intro R; refine ⟨_, (by repeat constructor), ?_⟩;
           (first | (apply EvW.load; exact rfl; exact ScalC.eq; (focus ((repeat constructor); done)); exact rfl)))
      apply Par.quiet _ [true, false, true, false, true, true, true]
      · exact rfl
      · decide +kernel
      · exact rfl
      · intro R
        refine ⟨_, (by repeat constructor), ?_⟩
        apply EvW.callK ([])
        · exact rfl
        · exact fun w => Try.call15 _ w
        · (focus ((repeat constructor); done))
        · exact fun w1 S1 hS1 hs1 ho1 => aliveI_spec (Img.mk xb xc xv (tv (c 7).2)) cm.now cm.oc b w1 S1 hS1 (img_seen (ho1 (imgH (Img.mk xb xc xv (tv (c 7).2))) _ (by repeat constructor)) ((hstep (c 7).2 undef undef).xok hsm)) hx1 (hb (c 7).2)
        · exact fun _ _ h => h
      first
        | (apply Par.skip; exact rfl; decide +kernel; exact rfl)
        | (apply Par.quiet _ [true, false, true, false, true, true, true]; exact rfl; decide +kernel; exact rfl; intro R; refine ⟨_, (by repeat constructor), ?_⟩;
           (first | (apply EvW.move; exact rfl)))
      first
        | (apply Par.skip; exact rfl; decide +kernel; exact rfl)
        | (apply Par.quiet _ [true, false, true, false, true, true, true]; exact rfl; decide +kernel; exact rfl; intro R; refine ⟨_, (by repeat constructor), ?_⟩;
           (first | (apply EvW.fieldAddr0; exact rfl; exact FldC.eq)))
      first
        | (apply Par.skip; exact rfl; decide +kernel; exact rfl)
        | (apply Par.quiet _ [true, false, true, false, true, true, true]; exact rfl; decide +kernel; exact rfl; intro R; refine ⟨_, (by repeat constructor), ?_⟩;
           (first | (apply EvW.load; exact rfl; exact ScalC.eq; (focus ((repeat constructor); done)); exact rfl)))
      first
        | (apply Par.skip; exact rfl; decide +kernel; exact rfl)
        | (apply Par.quiet _ [true, false, true, false, true, true, true]; exact rfl; decide +kernel; exact rfl; intro R; refine ⟨_, (by repeat constructor), ?_⟩;
           (first | (apply EvW.fieldAddr0; exact rfl; exact FldC.eq)))
      first
        | (apply Par.skip; exact rfl; decide +kernel; exact rfl)
        | (apply Par.quiet _ [true, false, true, false, true, true, true]; exact rfl; decide +kernel; exact rfl; intro R; refine ⟨_, (by repeat constructor), ?_⟩;
           (first | (apply EvW.load; exact rfl; exact ScalC.eq; (focus ((repeat constructor); done)); exact rfl)))
      apply Par.quiet _ [true, false, true, false, true, true, true]
      · exact rfl
      · decide +kernel
      · exact rfl
      · intro R
        refine ⟨_, (by repeat constructor), ?_⟩
        apply EvW.callK ([])
        · exact rfl
        · exact fun w => Try.call18 _ w
        · (focus ((repeat constructor); done))
        · exact fun w1 S1 hS1 hs1 ho1 => raliveI_spec (RImg.mk yb yr ys yt (te (cA (c 15).2 0) (cA (c 15).2 1))) g cm.now cm.oc b w1 S1 hS1 (rimg_seen (ho1 (rimgH g (RImg.mk yb yr ys yt (te (cA (c 15).2 0) (cA (c 15).2 1)))) _ (by repeat constructor)) (hstep undef (cA (c 15).2 0) (cA (c 15).2 1)).yok (hg.down hs1)) hx1 (hb' _ _)
        · exact fun _ _ h => h
      first
        | (apply Par.skip; exact rfl; decide +kernel; exact rfl)
        | (apply Par.quiet _ [true, false, true, false, true, true, true]; exact rfl; decide +kernel; exact rfl; intro R; refine ⟨_, (by repeat constructor), ?_⟩;
           (first | (apply EvW.bneS; exact rfl; exact rfl; exact UndC.eq)))
      (apply Par.quiet _ [true, false, true, false, true, true, true]; exact rfl; decide +kernel; exact rfl; intro R; refine ⟨_, (by repeat constructor), ?_⟩;
           (first | (apply EvW.pickF; exact rfl; exact rfl)))
      (apply Par.quiet _ [true, false, true, false, true, true, true]; exact rfl; decide +kernel; exact rfl; intro R; refine ⟨_, (by repeat constructor), ?_⟩;
           (first | (apply EvW.move; exact rfl)))
      first
        | (apply Par.skip; exact rfl; decide +kernel; exact rfl)
        | (apply Par.quiet _ [true, false, true, false, true, true, true]; exact rfl; decide +kernel; exact rfl; intro R; refine ⟨_, (by repeat constructor), ?_⟩;
           (first | (apply EvW.move; exact rfl)))
      apply Par.quiet _ [true, false, true, false, true, true, true]
      · exact rfl
      · decide +kernel
      · exact rfl
      · intro R
        refine ⟨_, (by repeat constructor), ?_⟩
        apply EvW.callK ([])
        · exact rfl
        · exact fun w => Try.call19 _ w
        · (focus ((repeat constructor); done))
        · exact fun w1 S1 hS1 hs1 ho1 => (by have h := lostI_spec (Img.mk xb xc xv (tv (c 7).2)) w1 S1 hS1 (img_seen (ho1 (imgH (Img.mk xb xc xv (tv (c 7).2))) _ (by repeat constructor)) ((hstep (c 7).2 undef undef).xok hsm)) ((hstep (c 7).2 undef undef).lostX (by omega)); rw [hn0] at h; exact h)
        · exact fun _ _ h => h
      first
        | (apply Par.skip; exact rfl; decide +kernel; exact rfl)
        | (apply Par.quiet _ [true, false, true, false, true, true, true]; exact rfl; decide +kernel; exact rfl; intro R; refine ⟨_, (by repeat constructor), ?_⟩;
           (first | (apply EvW.move; exact rfl)))
      apply Par.quiet _ [true, false, true, false, true, true, true]
      · exact rfl
      · decide +kernel
      · exact rfl
      · intro R
        refine ⟨_, (by repeat constructor), ?_⟩
        apply EvW.callK ([])
        · exact rfl
        · exact fun w => Try.call20 _ w
        · (focus ((repeat constructor); done))
        · exact fun w1 S1 hS1 hs1 ho1 => (by have h := rlostI_spec g (RImg.mk yb yr ys yt (te (cA (c 15).2 0) (cA (c 15).2 1))) w1 S1 hS1 (rimg_seen (ho1 (rimgH g (RImg.mk yb yr ys yt (te (cA (c 15).2 0) (cA (c 15).2 1)))) _ (by repeat constructor)) (hstep undef (cA (c 15).2 0) (cA (c 15).2 1)).yok (hg.down hs1)) (fun k _ => by have := (hstep undef (cA (c 15).2 0) (cA (c 15).2 1)).nsl k; omega) ((hstep undef (cA (c 15).2 0) (cA (c 15).2 1)).lostY (by omega)); rw [hn0'] at h; exact h)
        · exact fun _ _ h => h
      first
        | (apply Par.skip; exact rfl; decide +kernel; exact rfl)
        | (apply Par.quiet _ [true, false, true, false, true, true, true]; exact rfl; decide +kernel; exact rfl; intro R; refine ⟨_, (by repeat constructor), ?_⟩;
           (first | (apply EvW.cmpF; exact rfl; exact rfl; exact rfl; omega)))
      (apply Par.quiet _ [true, false, true, false, true, true, true]; exact rfl; decide +kernel; exact rfl; intro R; refine ⟨_, (by repeat constructor), ?_⟩;
           (first | (apply EvW.pickF; exact rfl; exact rfl)))
      exact Par.nil
    · repeat (first | exact AllN.nil | (apply AllN.cons; (intro c x; (repeat (first | exact IndA.nil | (apply IndA.skip; decide +kernel) | apply IndA.same))))) 
    · repeat (first | exact AllN.nil | (apply AllN.cons; (intro c x; (repeat (first | exact IndT.nil | (apply IndT.skip; decide +kernel) | apply IndT.same))))) 
    · exact fun _ => rfl
    intro c
    refine ⟨_, (by repeat constructor), ?_⟩
    apply WE.writ
    · (focus ((repeat (first | exact Writ.nil | apply Writ.some | apply Writ.none)); done))
    generalize (c 7).2 = sv
    generalize (c 15).2 = sw
    have hA2 := hstep sv (cA sw 0) (cA sw 1)
    clear hstep hb hb' hn0 hn0' htv hte
    generalize tv sv = vs' at hA2
    generalize te (cA sw 0) (cA sw 1) = es' at hA2
    repeat first
      | refine WC.seq ?_ | refine WE.next ?_ | refine WC.skip ?_ | refine WC.condF rfl ?_
    have hok2 := hA2.xok hsm
    have hsd2 := hA2.sound cm.now
    obtain ⟨L1, hL1⟩ : ∃ L, (RImg.mk yb yr ys yt es').occ g cm.now g.secs.length = L := ⟨_, rfl⟩
    obtain ⟨L2, hL2⟩ : ∃ L, (RImg.mk yb yr ys yt es').pos g cm.now g.secs.length = L := ⟨_, rfl⟩
    obtain ⟨L3, hL3⟩ : ∃ L, (RImg.mk yb yr ys yt es').shut g cm.now g.crs.length = L := ⟨_, rfl⟩
    obtain ⟨L4, hL4⟩ : ∃ L, (RImg.mk yb yr ys yt es').lamp g cm.now g.sigs.length = L := ⟨_, rfl⟩
    have hV : ∀ (w : World) (S : BSet), (sepL []).sat S w → (Img.Seen (Img.mk xb xc xv vs') w S) → Tri Try.prog 10 #[ptr xb 0, i64 cm.now] w S fun u A => ∃ a b d e : Value, u = .agg #[a, b, d, e] ∧ A = [.own 44 3 (a) (L1).length ((L1).flatMap lkC), .own 44 3 (b) (L2).length ((L2).flatMap lkC), .own 44 3 (d) (L3).length ((L3).flatMap lkC), .own 44 3 (e) (L4).length ((L4).flatMap lkC)] := fun w S hS hx => by
      have h := view_spec (Img.mk xb xc xv vs') cm.now w S hS hx hx1 hok2.small hsd2
      rw [hA2.occ, hA2.pos, hA2.shut, hA2.lamp, hL1, hL2, hL3, hL4] at h
      exact h
    have hW : ∀ (w : World) (S : BSet), (sepL []).sat S w → (RImg.Seen (RImg.mk yb yr ys yt es') g w S) → Tri Try.prog 21 #[ptr yb 0, i64 cm.now] w S fun u A => ∃ a b d e : Value, u = .agg #[a, b, d, e] ∧ A = [.own 44 3 (a) (L1).length ((L1).flatMap lkC), .own 44 3 (b) (L2).length ((L2).flatMap lkC), .own 44 3 (d) (L3).length ((L3).flatMap lkC), .own 44 3 (e) (L4).length ((L4).flatMap lkC)] := fun w S hS hx => by
      have h := rview_spec (RImg.mk yb yr ys yt es') g cm.now w S hS hx hx1 hsm
      rw [hL1, hL2, hL3, hL4] at h
      exact h
    have hl1 : L1.length ≤ 1048576 := by rw [← hL1, RImg.occ_len]; exact hsm.s
    have hl2 : L2.length ≤ 1048576 := by rw [← hL2, RImg.pos_len]; exact hsm.s
    have hl3 : L3.length ≤ 1048576 := by rw [← hL3, RImg.shut_len]; exact hsm.r
    have hl4 : L4.length ≤ 1048576 := by rw [← hL4, RImg.lamp_len]; exact hsm.g
    clear hL1 hL2 hL3 hL4
    have hyok := hA2.yok
    repeat refine WC.seq ?_
    refine WC.keep (xs := [.blk z #[i64 cm.now, i64 cm.oc, str cm.t] 36, imgH (Img.mk xb xc xv vs'), rimgH g (RImg.mk yb yr ys yt es'), imgH (newI g o), .blk q0 (cfgC g).toArray 30]) (by repeat constructor) ?_
    apply WC.par _ (fun c : Ch => [.blk z #[i64 cm.now, i64 cm.oc, str cm.t] 36, imgH (Img.mk xb xc xv vs'), rimgH g (RImg.mk yb yr ys yt es'), imgH (newI g o), .blk q0 (cfgC g).toArray 30, .own 44 3 (cA (c 3).2 0) (L1).length ((L1).flatMap lkC), .own 44 3 (cA (c 3).2 1) (L2).length ((L2).flatMap lkC), .own 44 3 (cA (c 3).2 2) (L3).length ((L3).flatMap lkC), .own 44 3 (cA (c 3).2 3) (L4).length ((L4).flatMap lkC), .own 44 3 (cA (c 7).2 0) (L1).length ((L1).flatMap lkC), .own 44 3 (cA (c 7).2 1) (L2).length ((L2).flatMap lkC), .own 44 3 (cA (c 7).2 2) (L3).length ((L3).flatMap lkC), .own 44 3 (cA (c 7).2 3) (L4).length ((L4).flatMap lkC), .own 44 3 (cA (c 11).2 0) (L1).length ((L1).flatMap lkC), .own 44 3 (cA (c 11).2 1) (L2).length ((L2).flatMap lkC), .own 44 3 (cA (c 11).2 2) (L3).length ((L3).flatMap lkC), .own 44 3 (cA (c 11).2 3) (L4).length ((L4).flatMap lkC), .blk (c 12).1 #[(.slice none 0 0), (.slice none 0 0), (.slice none 0 0), (.slice none 0 0)] 41, .blk (c 12).1 #[cA (c 3).2 0, cA (c 3).2 1, cA (c 3).2 2, cA (c 3).2 3] 41, .blk (c 13).1 #[(.slice none 0 0), (.slice none 0 0), (.slice none 0 0), (.slice none 0 0)] 41, .blk (c 13).1 #[cA (c 7).2 0, cA (c 7).2 1, cA (c 7).2 2, cA (c 7).2 3] 41, .blk (c 14).1 #[(.slice none 0 0), (.slice none 0 0), (.slice none 0 0), (.slice none 0 0)] 41, .blk (c 14).1 #[cA (c 11).2 0, cA (c 11).2 1, cA (c 11).2 2, cA (c 11).2 3] 41]) [none, none, none, none, none, some 3, some 3, some 3, some 3, some 7, some 7, some 7, some 7, some 11, some 11, some 11, some 11, some 12, some 15, some 13, some 16, some 14, some 17] [none, none, none, none, none, none, none, none, none, none, none, none, none, none, none, none, none, some 15, none, some 16, none, some 17, none] [(3, fun x => .agg #[cA x.2 0, cA x.2 1, cA x.2 2, cA x.2 3]), (7, fun x => .agg #[cA x.2 0, cA x.2 1, cA x.2 2, cA x.2 3]), (11, fun x => .agg #[cA x.2 0, cA x.2 1, cA x.2 2, cA x.2 3]), (12, fun x => ptr x.1 0), (13, fun x => ptr x.1 0), (14, fun x => ptr x.1 0)] Try.mixed
    · (focus ((repeat (first | exact Restr.nil | (apply Restr.keep; exact rfl; exact rfl) | (apply Restr.drop; exact rfl))); done))
    · intro c; exact (by repeat constructor)
    · exact rfl
    · decide +kernel
    · decide +kernel
    · intro c
      (apply Par.quiet _ [true, true, true, true, true, false, false, false, false, false, false, false, false, false, false, false, false, false, false, false, false, false, false]; exact rfl; decide +kernel; exact rfl; intro R; refine ⟨_, (by repeat constructor), ?_⟩;
           (first | (apply EvW.move; exact rfl)))
      (apply Par.quiet _ [true, true, true, true, true, false, false, false, false, false, false, false, false, false, false, false, false, false, false, false, false, false, false]; exact rfl; decide +kernel; exact rfl; intro R; refine ⟨_, (by repeat constructor), ?_⟩;
           (first | (apply EvW.fieldAddr0; exact rfl; exact FldC.eq)))
      (apply Par.quiet _ [true, true, true, true, true, false, false, false, false, false, false, false, false, false, false, false, false, false, false, false, false, false, false]; exact rfl; decide +kernel; exact rfl; intro R; refine ⟨_, (by repeat constructor), ?_⟩;
           (first | (apply EvW.load; exact rfl; exact ScalC.eq; (focus ((repeat constructor); done)); exact rfl)))
      apply Par.new _ [false, false, false, false, false, false, false, false, false, false, false, false, false, false, false, false, false, false, false, false, false, false, false] [false, false, false, false, false, true, true, true, true, false, false, false, false, false, false, false, false, false, false, false, false, false, false] [true, true, true, true, true, false, false, false, false, false, false, false, false, false, false, false, false, false, false, false, false, false, false]
      · exact rfl
      · exact rfl
      · decide +kernel
      · intro R
        refine ⟨_, _, _, (by repeat constructor), (by repeat constructor), (fun x => (by repeat constructor)), ?_⟩
        apply NewW.callA ([]) (fun x => [.own 44 3 (cA x.2 0) (L1).length ((L1).flatMap lkC), .own 44 3 (cA x.2 1) (L2).length ((L2).flatMap lkC), .own 44 3 (cA x.2 2) (L3).length ((L3).flatMap lkC), .own 44 3 (cA x.2 3) (L4).length ((L4).flatMap lkC)])
        · exact rfl
        · exact fun w => Try.call10 _ w
        · (focus ((repeat constructor); done))
        · exact fun w1 S1 hS1 hs1 ho1 => hV w1 S1 hS1 (img_seen (ho1 (imgH (Img.mk xb xc xv vs')) _ (by repeat constructor)) hok2)
        · rintro _ _ ⟨x1, x2, x3, x4, rfl, rfl⟩; exact ⟨(0, .agg #[x1, x2, x3, x4]), rfl, rfl⟩
        · exact fun x _ h => TakeT.st (by (focus ((repeat (first | exact TakeT.tail | apply TakeT.cons | exact Take.head | apply Take.tail | apply TakeT.drop)); done))) h
      (apply Par.quiet _ [true, true, true, true, true, false, false, false, false, false, false, false, false, false, false, false, false, false, false, false, false, false, false]; exact rfl; decide +kernel; exact rfl; intro R; refine ⟨_, (by repeat constructor), ?_⟩;
           (first | (apply EvW.move; exact rfl)))
      (apply Par.quiet _ [true, true, true, true, true, false, false, false, false, false, false, false, false, false, false, false, false, false, false, false, false, false, false]; exact rfl; decide +kernel; exact rfl; intro R; refine ⟨_, (by repeat constructor), ?_⟩;
           (first | (apply EvW.fieldAddr0; exact rfl; exact FldC.eq)))
      (apply Par.quiet _ [true, true, true, true, true, false, false, false, false, false, false, false, false, false, false, false, false, false, false, false, false, false, false]; exact rfl; decide +kernel; exact rfl; intro R; refine ⟨_, (by repeat constructor), ?_⟩;
           (first | (apply EvW.load; exact rfl; exact ScalC.eq; (focus ((repeat constructor); done)); exact rfl)))
      apply Par.new _ [false, false, false, false, false, false, false, false, false, false, false, false, false, false, false, false, false, false, false, false, false, false, false] [false, false, false, false, false, false, false, false, false, true, true, true, true, false, false, false, false, false, false, false, false, false, false] [true, true, true, true, true, true, true, true, true, false, false, false, false, false, false, false, false, false, false, false, false, false, false]
      · exact rfl
      · exact rfl
      · decide +kernel
      · intro R
        refine ⟨_, _, _, (by repeat constructor), (by repeat constructor), (fun x => (by repeat constructor)), ?_⟩
        apply NewW.callA ([]) (fun x => [.own 44 3 (cA x.2 0) (L1).length ((L1).flatMap lkC), .own 44 3 (cA x.2 1) (L2).length ((L2).flatMap lkC), .own 44 3 (cA x.2 2) (L3).length ((L3).flatMap lkC), .own 44 3 (cA x.2 3) (L4).length ((L4).flatMap lkC)])
        · exact rfl
        · exact fun w => Try.call10 _ w
        · (focus ((repeat constructor); done))
        · exact fun w1 S1 hS1 hs1 ho1 => hV w1 S1 hS1 (img_seen (ho1 (imgH (Img.mk xb xc xv vs')) _ (by repeat constructor)) hok2)
        · rintro _ _ ⟨x1, x2, x3, x4, rfl, rfl⟩; exact ⟨(0, .agg #[x1, x2, x3, x4]), rfl, rfl⟩
        · exact fun x _ h => TakeT.st (by (focus ((repeat (first | exact TakeT.tail | apply TakeT.cons | exact Take.head | apply Take.tail | apply TakeT.drop)); done))) h
      (apply Par.quiet _ [true, true, true, true, true, false, false, false, false, false, false, false, false, false, false, false, false, false, false, false, false, false, false]; exact rfl; decide +kernel; exact rfl; intro R; refine ⟨_, (by repeat constructor), ?_⟩;
           (first | (apply EvW.move; exact rfl)))
      (apply Par.quiet _ [true, true, true, true, true, false, false, false, false, false, false, false, false, false, false, false, false, false, false, false, false, false, false]; exact rfl; decide +kernel; exact rfl; intro R; refine ⟨_, (by repeat constructor), ?_⟩;
           (first | (apply EvW.fieldAddr0; exact rfl; exact FldC.eq)))
      (apply Par.quiet _ [true, true, true, true, true, false, false, false, false, false, false, false, false, false, false, false, false, false, false, false, false, false, false]; exact rfl; decide +kernel; exact rfl; intro R; refine ⟨_, (by repeat constructor), ?_⟩;
           (first | (apply EvW.load; exact rfl; exact ScalC.eq; (focus ((repeat constructor); done)); exact rfl)))
      apply Par.new _ [false, false, false, false, false, false, false, false, false, false, false, false, false, false, false, false, false, false, false, false, false, false, false] [false, false, false, false, false, false, false, false, false, false, false, false, false, true, true, true, true, false, false, false, false, false, false] [true, true, true, true, true, true, true, true, true, true, true, true, true, false, false, false, false, false, false, false, false, false, false]
      · exact rfl
      · exact rfl
      · decide +kernel
      · intro R
        refine ⟨_, _, _, (by repeat constructor), (by repeat constructor), (fun x => (by repeat constructor)), ?_⟩
        apply NewW.callA ([]) (fun x => [.own 44 3 (cA x.2 0) (L1).length ((L1).flatMap lkC), .own 44 3 (cA x.2 1) (L2).length ((L2).flatMap lkC), .own 44 3 (cA x.2 2) (L3).length ((L3).flatMap lkC), .own 44 3 (cA x.2 3) (L4).length ((L4).flatMap lkC)])
        · exact rfl
        · exact fun w => Try.call21 _ w
        · (focus ((repeat constructor); done))
        · exact fun w1 S1 hS1 hs1 ho1 => hW w1 S1 hS1 (rimg_seen (ho1 (rimgH g (RImg.mk yb yr ys yt es')) _ (by repeat constructor)) hyok (hg.down hs1))
        · rintro _ _ ⟨x1, x2, x3, x4, rfl, rfl⟩; exact ⟨(0, .agg #[x1, x2, x3, x4]), rfl, rfl⟩
        · exact fun x _ h => TakeT.st (by (focus ((repeat (first | exact TakeT.tail | apply TakeT.cons | exact Take.head | apply Take.tail | apply TakeT.drop)); done))) h
      (apply Par.new _ [false, false, false, false, false, false, false, false, false, false, false, false, false, false, false, false, false, false, false, false, false, false, false] [false, false, false, false, false, false, false, false, false, false, false, false, false, false, false, false, false, true, false, false, false, false, false] [true, true, true, true, true, false, false, false, false, false, false, false, false, false, false, false, false, false, false, false, false, false, false]; exact rfl; exact rfl; decide +kernel; intro R; refine ⟨_, _, _, (by repeat constructor), (by repeat constructor), (fun x => (by repeat constructor)), ?_⟩; (apply NewW.alloc; exact ZvC.eq; exact rfl; exact fun _ => rfl))
      (apply Par.new _ [false, false, false, false, false, false, false, false, false, false, false, false, false, false, false, false, false, false, false, false, false, false, false] [false, false, false, false, false, false, false, false, false, false, false, false, false, false, false, false, false, false, false, true, false, false, false] [true, true, true, true, true, false, false, false, false, false, false, false, false, false, false, false, false, false, false, false, false, false, false]; exact rfl; exact rfl; decide +kernel; intro R; refine ⟨_, _, _, (by repeat constructor), (by repeat constructor), (fun x => (by repeat constructor)), ?_⟩; (apply NewW.alloc; exact ZvC.eq; exact rfl; exact fun _ => rfl))
      (apply Par.new _ [false, false, false, false, false, false, false, false, false, false, false, false, false, false, false, false, false, false, false, false, false, false, false] [false, false, false, false, false, false, false, false, false, false, false, false, false, false, false, false, false, false, false, false, false, true, false] [true, true, true, true, true, false, false, false, false, false, false, false, false, false, false, false, false, false, false, false, false, false, false]; exact rfl; exact rfl; decide +kernel; intro R; refine ⟨_, _, _, (by repeat constructor), (by repeat constructor), (fun x => (by repeat constructor)), ?_⟩; (apply NewW.alloc; exact ZvC.eq; exact rfl; exact fun _ => rfl))
      apply Par.eff _ [false, false, false, false, false, false, false, false, false, false, false, false, false, false, false, false, false, true, false, false, false, false, false] [false, false, false, false, false, false, false, false, false, false, false, false, false, false, false, false, false, false, true, false, false, false, false] [true, true, true, true, true, true, true, true, true, true, true, true, true, true, true, true, true, false, false, true, false, true, false]
      · exact rfl
      · exact rfl
      · decide +kernel
      · intro R
        refine ⟨_, _, _, (by repeat constructor), (by repeat constructor), (by repeat constructor), ?_⟩
        (apply EffW.slOwn (cA (c 3).2 0); (focus ((repeat constructor); done)); intro _ o1; apply EffW.slOwn (cA (c 3).2 1); (focus ((repeat constructor); done)); intro _ o2; apply EffW.slOwn (cA (c 3).2 2); (focus ((repeat constructor); done)); intro _ o3; apply EffW.slOwn (cA (c 3).2 3); (focus ((repeat constructor); done)); intro _ o4; (apply EffW.store; exact rfl; exact rfl; exact rfl; exact SzC.eq; (simp [o1, o2, o3, o4]); (focus ((repeat constructor); done))))
      apply Par.eff _ [false, false, false, false, false, false, false, false, false, false, false, false, false, false, false, false, false, false, false, true, false, false, false] [false, false, false, false, false, false, false, false, false, false, false, false, false, false, false, false, false, false, false, false, true, false, false] [true, true, true, true, true, true, true, true, true, true, true, true, true, true, true, true, true, false, true, false, false, true, false]
      · exact rfl
      · exact rfl
      · decide +kernel
      · intro R
        refine ⟨_, _, _, (by repeat constructor), (by repeat constructor), (by repeat constructor), ?_⟩
        (apply EffW.slOwn (cA (c 7).2 0); (focus ((repeat constructor); done)); intro _ o1; apply EffW.slOwn (cA (c 7).2 1); (focus ((repeat constructor); done)); intro _ o2; apply EffW.slOwn (cA (c 7).2 2); (focus ((repeat constructor); done)); intro _ o3; apply EffW.slOwn (cA (c 7).2 3); (focus ((repeat constructor); done)); intro _ o4; (apply EffW.store; exact rfl; exact rfl; exact rfl; exact SzC.eq; (simp [o1, o2, o3, o4]); (focus ((repeat constructor); done))))
      apply Par.eff _ [false, false, false, false, false, false, false, false, false, false, false, false, false, false, false, false, false, false, false, false, false, true, false] [false, false, false, false, false, false, false, false, false, false, false, false, false, false, false, false, false, false, false, false, false, false, true] [true, true, true, true, true, true, true, true, true, true, true, true, true, true, true, true, true, false, true, false, true, false, false]
      · exact rfl
      · exact rfl
      · decide +kernel
      · intro R
        refine ⟨_, _, _, (by repeat constructor), (by repeat constructor), (by repeat constructor), ?_⟩
        (apply EffW.slOwn (cA (c 11).2 0); (focus ((repeat constructor); done)); intro _ o1; apply EffW.slOwn (cA (c 11).2 1); (focus ((repeat constructor); done)); intro _ o2; apply EffW.slOwn (cA (c 11).2 2); (focus ((repeat constructor); done)); intro _ o3; apply EffW.slOwn (cA (c 11).2 3); (focus ((repeat constructor); done)); intro _ o4; (apply EffW.store; exact rfl; exact rfl; exact rfl; exact SzC.eq; (simp [o1, o2, o3, o4]); (focus ((repeat constructor); done))))
      exact Par.nil
    · repeat (first | exact AllN.nil | (apply AllN.cons; (intro c x; (repeat (first | exact IndA.nil | (apply IndA.skip; decide +kernel) | apply IndA.same))))) 
    · repeat (first | exact AllN.nil | (apply AllN.cons; (intro c x; (repeat (first | exact IndT.nil | (apply IndT.skip; decide +kernel) | apply IndT.same))))) 
    · exact fun _ => rfl
    intro c
    refine ⟨_, (by repeat constructor), ?_⟩
    apply WE.writ
    · (focus ((repeat (first | exact Writ.nil | apply Writ.some | apply Writ.none)); done))
    generalize (c 3).1 = b3
    generalize (c 7).1 = b7
    generalize (c 11).1 = b11
    generalize (c 12).1 = b12
    generalize (c 13).1 = b13
    generalize (c 14).1 = b14
    generalize cA (c 3).2 0 = a0
    generalize cA (c 3).2 1 = a1
    generalize cA (c 3).2 2 = a2
    generalize cA (c 3).2 3 = a3
    generalize cA (c 7).2 0 = b0
    generalize cA (c 7).2 1 = b1
    generalize cA (c 7).2 2 = b2
    generalize cA (c 7).2 3 = b3
    generalize cA (c 11).2 0 = d0
    generalize cA (c 11).2 1 = d1
    generalize cA (c 11).2 2 = d2
    generalize cA (c 11).2 3 = d3
    repeat first
      | (apply WL.q; exact rfl; exact rfl; exact rfl; (first | (apply EvW.fieldAddr0; exact rfl; exact FldC.eq) | (apply EvW.load; exact rfl; exact ScalC.eq; (focus ((repeat constructor); done)); exact rfl)))
      | refine WC.seq ?_ | refine WC.region ?_ | refine WE.next ?_
    (first | refine WL.slOwn (v := a0) (by repeat constructor) ?_ | refine WC.slOwn (v := a0) (by repeat constructor) ?_)
    intro hc_a0 ho_a0
    (first | refine WL.slOwn (v := a1) (by repeat constructor) ?_ | refine WC.slOwn (v := a1) (by repeat constructor) ?_)
    intro hc_a1 ho_a1
    (first | refine WL.slOwn (v := a2) (by repeat constructor) ?_ | refine WC.slOwn (v := a2) (by repeat constructor) ?_)
    intro hc_a2 ho_a2
    (first | refine WL.slOwn (v := a3) (by repeat constructor) ?_ | refine WC.slOwn (v := a3) (by repeat constructor) ?_)
    intro hc_a3 ho_a3
    have hq0 : a0.oneCell' = true := by simpa using ho_a0
    have hq1 : a1.oneCell' = true := by simpa using ho_a1
    have hq2 : a2.oneCell' = true := by simpa using ho_a2
    have hq3 : a3.oneCell' = true := by simpa using ho_a3
    try refine WL.wanted rfl rfl rfl ?_
    (apply WL.buildSlice; exact rfl; exact UndC.eq; exact SzC.eq; exact ZvC.eq; exact rfl; exact rfl; exact rfl; ((focus ((repeat (first | exact Flat.nil | (apply Flat.one; (first | exact rfl | assumption)) | (apply Flat.cons; exact rfl; exact rfl))); done))); exact rfl; exact rfl; intro kk)
    refine WL.toOwn (bl := kk) 4 1 .head rfl ?_
    clear hc_a0 hc_a1 hc_a2 hc_a3
    repeat first
      | (apply WL.q; exact rfl; exact rfl; exact rfl; (first | (apply EvW.move; exact rfl) | (apply EvW.lenL; exact rfl; exact UndC.eq)))
      | refine WL.nil ?_ | refine WE.next ?_ | refine WC.block ?_
    refine WC.loopK (σ := Nat × Looks × Looks × Looks × Looks) [5, 6, 7, 11, 12, 24, 25, 26, 89, 90] (fun s => [(91, i64 s.1)]) (fun s => [.own 44 3 (a0) (s.2.1).length ((s.2.1).flatMap lkC), .own 44 3 (a1) (s.2.2.1).length ((s.2.2.1).flatMap lkC), .own 44 3 (a2) (s.2.2.2.1).length ((s.2.2.2.1).flatMap lkC), .own 44 3 (a3) (s.2.2.2.2).length ((s.2.2.2.2).flatMap lkC), .blk b12 #[a0, a1, a2, a3] 41, .blk b13 #[b0, b1, b2, b3] 41, .own 44 3 (b0) (L1).length ((L1).flatMap lkC), .own 44 3 (b1) (L2).length ((L2).flatMap lkC), .own 44 3 (b2) (L3).length ((L3).flatMap lkC), .own 44 3 (b3) (L4).length ((L4).flatMap lkC), .blk b14 #[d0, d1, d2, d3] 41, .own 44 3 (d0) (L1).length ((L1).flatMap lkC), .own 44 3 (d1) (L2).length ((L2).flatMap lkC), .own 44 3 (d2) (L3).length ((L3).flatMap lkC), .own 44 3 (d3) (L4).length ((L4).flatMap lkC), .own 39 1 (.slice (some ⟨kk, 0, none⟩) 4 4) 4 [a0, a1, a2, a3], imgH (Img.mk xb xc xv vs'), rimgH g (RImg.mk yb yr ys yt es'), imgH (newI g o), .blk q0 (cfgC g).toArray 30, .blk z #[i64 cm.now, i64 cm.oc, str cm.t] 36]) (fun s => s.1 ≤ 4 ∧ s.2.1.length ≤ 1048576 ∧ s.2.2.1.length ≤ 1048576 ∧ s.2.2.2.1.length ≤ 1048576 ∧ s.2.2.2.2.length ≤ 1048576) (fun s => 4 - s.1) (0, L1, L2, L3, L4) (by (focus ((repeat (first | exact Pick.nil | (apply Pick.cons; exact rfl))); done))) (by (focus ((repeat (first | exact trivial | (refine ⟨rfl, ?_⟩))); done))) (fun _ h => h.keep (by repeat constructor)) ⟨Nat.zero_le _, hl1, hl2, hl3, hl4⟩ (fun s hs => ?_)
    obtain ⟨i4, l0, l1, l2, l3⟩ := s
    simp only [List.cons_append, List.nil_append] at hs ⊢
    obtain ⟨hi4, hm0, hm1, hm2, hm3⟩ := hs
    by_cases hlt2 : (i4 : Int) < 4
    · obtain h | h | h | h : i4 = 0 ∨ i4 = 1 ∨ i4 = 2 ∨ i4 = 3 := by omega
      · subst h
        repeat first
          | (apply WL.q; exact rfl; exact rfl; exact rfl; (first | (apply EvW.cmpT; exact rfl; exact rfl; exact rfl; omega) | (apply EvW.idxOwn; exact rfl; exact rfl; exact UndC.eq; exact SzC.eq; (focus ((repeat constructor); done)); omega; omega)))
          | refine WC.seq ?_ | refine WC.region ?_ | refine WL.nil ?_ | refine WE.next ?_ | refine WC.block ?_ | refine WC.skip ?_ | refine WC.condT rfl ?_
        try refine WL.wanted rfl rfl rfl ?_
        (apply WL.q; exact rfl; exact rfl; exact rfl; (apply EvW.ldOwn (i := 0) (off := 0) (q := a0); exact rfl; exact ScalC.eq; (focus ((repeat constructor); done)); rfl))
        repeat first
          | (apply WL.q; exact rfl; exact rfl; exact rfl; (first | (apply EvW.move; exact rfl) | (apply EvW.assign; exact rfl) | (apply EvW.lenOwn; exact rfl; exact UndC.eq; (focus ((repeat constructor); done)))))
          | refine WC.seq ?_ | refine WC.region ?_ | refine WL.nil ?_ | refine WE.next ?_ | refine WC.block ?_
        refine WC.loopK (σ := Nat × Looks) [5, 6, 7, 11, 12, 14, 24, 25, 26, 89, 90, 91, 96] (fun s => [(97, i64 s.1)]) (fun s => [.own 44 3 (a0) (s.2).length ((s.2).flatMap lkC), .own 44 3 (a1) (l1).length ((l1).flatMap lkC), .own 44 3 (a2) (l2).length ((l2).flatMap lkC), .own 44 3 (a3) (l3).length ((l3).flatMap lkC), .blk b12 #[a0, a1, a2, a3] 41, .blk b13 #[b0, b1, b2, b3] 41, .own 44 3 (b0) (L1).length ((L1).flatMap lkC), .own 44 3 (b1) (L2).length ((L2).flatMap lkC), .own 44 3 (b2) (L3).length ((L3).flatMap lkC), .own 44 3 (b3) (L4).length ((L4).flatMap lkC), .blk b14 #[d0, d1, d2, d3] 41, .own 44 3 (d0) (L1).length ((L1).flatMap lkC), .own 44 3 (d1) (L2).length ((L2).flatMap lkC), .own 44 3 (d2) (L3).length ((L3).flatMap lkC), .own 44 3 (d3) (L4).length ((L4).flatMap lkC), .own 39 1 (.slice (some ⟨kk, 0, none⟩) 4 4) 4 [a0, a1, a2, a3], imgH (Img.mk xb xc xv vs'), rimgH g (RImg.mk yb yr ys yt es'), imgH (newI g o), .blk q0 (cfgC g).toArray 30, .blk z #[i64 cm.now, i64 cm.oc, str cm.t] 36]) (fun s => s.1 ≤ s.2.length ∧ s.2.length = l0.length) (fun s => s.2.length - s.1) (0, l0) (by (focus ((repeat (first | exact Pick.nil | (apply Pick.cons; exact rfl))); done))) (by (focus ((repeat (first | exact trivial | (refine ⟨rfl, ?_⟩))); done))) (fun _ h => h.keep (by repeat constructor)) ⟨Nat.zero_le _, rfl⟩ (fun s hs => ?_)
        obtain ⟨j, m⟩ := s
        simp only [List.cons_append, List.nil_append] at hs ⊢
        obtain ⟨hj, hm⟩ := hs
        have hmi : (m.length : Int) = l0.length := by rw [hm]
        by_cases hlt3 : (j : Int) < l0.length
        · have hls : (m.set j ((-9, 0, false) : Int × Int × Bool)).length = m.length := List.length_set
          repeat first
            | (apply WL.q; exact rfl; exact rfl; exact rfl; (first | (apply EvW.move; exact rfl) | (apply EvW.assign; exact rfl) | (apply EvW.cmpT; exact rfl; exact rfl; exact rfl; omega) | (apply EvW.build; exact PlC.eq; exact ZvC.eq; exact rfl; exact rfl; (focus ((repeat (first | exact Fills.nil | (apply Fills.cons; exact rfl; (first | assumption | exact rfl); exact rfl) | exact SetMany.nil | apply SetMany.cons | apply SetMany.succ)); done))) | (apply EvW.idxOwn; exact rfl; exact rfl; exact UndC.eq; exact SzC.eq; (focus ((repeat constructor); done)); omega; omega)))
            | refine WC.seq ?_ | refine WC.region ?_ | refine WL.nil ?_ | refine WE.next ?_ | refine WC.block ?_ | refine WC.skip ?_ | refine WC.condT rfl ?_
          (apply WL.stFld (((-9, 0, false) : Int × Int × Bool)); exact rfl; exact rfl; exact rfl; exact SzC.eq; exact rfl; exact rfl; (focus ((repeat constructor); done)); exact fun _ => rfl; omega; exact rfl; exact rfl; exact Take.head)
          refine WL.ownEq (cs' := (m.set j ((-9, 0, false) : Int × Int × Bool)).flatMap lkC) (len' := (m.set j ((-9, 0, false) : Int × Int × Bool)).length) .head (by simp) rfl ?_
          repeat first
            | (apply WL.q; exact rfl; exact rfl; exact rfl; (first | (apply EvW.move; exact rfl) | (apply EvW.arN; exact rfl; exact rfl; exact rfl; refine i64_in ?_ ?_ <;> omega)))
            | refine WC.region ?_ | refine WL.nil ?_ | refine WE.next ?_ | refine WE.out ?_
          exact WE.again (s := (j, m)) ((j + 1, m.set j (-9, 0, false))) ⟨by simp; omega, by simp [hm]⟩ (by (focus ((repeat (first | exact trivial | (refine ⟨rfl, ?_⟩))); done))) (fun _ h => (by (try simp only []); exact h.keep (by repeat constructor))) (by (try simp only []); omega)
        · repeat first
            | (apply WL.q; exact rfl; exact rfl; exact rfl; (first | (apply EvW.move; exact rfl) | (apply EvW.cmpF; exact rfl; exact rfl; exact rfl; omega) | (apply EvW.arN; exact rfl; exact rfl; exact rfl; refine i64_in ?_ ?_ <;> omega)))
            | refine WC.seq ?_ | refine WC.region ?_ | refine WL.nil ?_ | refine WE.next ?_ | refine WC.exit ?_ | refine WE.pass ?_ | refine WE.hit ?_ | refine WE.out ?_ | refine WC.condF rfl ?_
          exact WE.again (s := (0, l0, l1, l2, l3)) ((1, m, l1, l2, l3)) ⟨by simp only []; omega, by simp only []; omega, by simp only []; omega, by simp only []; omega, by simp only []; omega⟩ (by (focus ((repeat (first | exact trivial | (refine ⟨rfl, ?_⟩))); done))) (fun _ h => (by (try simp only []); exact h.keep (by repeat constructor))) (by (try simp only []); omega)
      · subst h
        repeat first
          | (apply WL.q; exact rfl; exact rfl; exact rfl; (first | (apply EvW.cmpT; exact rfl; exact rfl; exact rfl; omega) | (apply EvW.idxOwn; exact rfl; exact rfl; exact UndC.eq; exact SzC.eq; (focus ((repeat constructor); done)); omega; omega)))
          | refine WC.seq ?_ | refine WC.region ?_ | refine WL.nil ?_ | refine WE.next ?_ | refine WC.block ?_ | refine WC.skip ?_ | refine WC.condT rfl ?_
        try refine WL.wanted rfl rfl rfl ?_
        (apply WL.q; exact rfl; exact rfl; exact rfl; (apply EvW.ldOwn (i := 1) (off := 0) (q := a1); exact rfl; exact ScalC.eq; (focus ((repeat constructor); done)); rfl))
        repeat first
          | (apply WL.q; exact rfl; exact rfl; exact rfl; (first | (apply EvW.move; exact rfl) | (apply EvW.assign; exact rfl) | (apply EvW.lenOwn; exact rfl; exact UndC.eq; (focus ((repeat constructor); done)))))
          | refine WC.seq ?_ | refine WC.region ?_ | refine WL.nil ?_ | refine WE.next ?_ | refine WC.block ?_
        refine WC.loopK (σ := Nat × Looks) [5, 6, 7, 11, 12, 14, 24, 25, 26, 89, 90, 91, 96] (fun s => [(97, i64 s.1)]) (fun s => [.own 44 3 (a1) (s.2).length ((s.2).flatMap lkC), .own 44 3 (a0) (l0).length ((l0).flatMap lkC), .own 44 3 (a2) (l2).length ((l2).flatMap lkC), .own 44 3 (a3) (l3).length ((l3).flatMap lkC), .blk b12 #[a0, a1, a2, a3] 41, .blk b13 #[b0, b1, b2, b3] 41, .own 44 3 (b0) (L1).length ((L1).flatMap lkC), .own 44 3 (b1) (L2).length ((L2).flatMap lkC), .own 44 3 (b2) (L3).length ((L3).flatMap lkC), .own 44 3 (b3) (L4).length ((L4).flatMap lkC), .blk b14 #[d0, d1, d2, d3] 41, .own 44 3 (d0) (L1).length ((L1).flatMap lkC), .own 44 3 (d1) (L2).length ((L2).flatMap lkC), .own 44 3 (d2) (L3).length ((L3).flatMap lkC), .own 44 3 (d3) (L4).length ((L4).flatMap lkC), .own 39 1 (.slice (some ⟨kk, 0, none⟩) 4 4) 4 [a0, a1, a2, a3], imgH (Img.mk xb xc xv vs'), rimgH g (RImg.mk yb yr ys yt es'), imgH (newI g o), .blk q0 (cfgC g).toArray 30, .blk z #[i64 cm.now, i64 cm.oc, str cm.t] 36]) (fun s => s.1 ≤ s.2.length ∧ s.2.length = l1.length) (fun s => s.2.length - s.1) (0, l1) (by (focus ((repeat (first | exact Pick.nil | (apply Pick.cons; exact rfl))); done))) (by (focus ((repeat (first | exact trivial | (refine ⟨rfl, ?_⟩))); done))) (fun _ h => h.keep (by repeat constructor)) ⟨Nat.zero_le _, rfl⟩ (fun s hs => ?_)
        obtain ⟨j, m⟩ := s
        simp only [List.cons_append, List.nil_append] at hs ⊢
        obtain ⟨hj, hm⟩ := hs
        have hmi : (m.length : Int) = l1.length := by rw [hm]
        by_cases hlt3 : (j : Int) < l1.length
        · have hls : (m.set j ((-9, 0, false) : Int × Int × Bool)).length = m.length := List.length_set
          repeat first
            | (apply WL.q; exact rfl; exact rfl; exact rfl; (first | (apply EvW.move; exact rfl) | (apply EvW.assign; exact rfl) | (apply EvW.cmpT; exact rfl; exact rfl; exact rfl; omega) | (apply EvW.build; exact PlC.eq; exact ZvC.eq; exact rfl; exact rfl; (focus ((repeat (first | exact Fills.nil | (apply Fills.cons; exact rfl; (first | assumption | exact rfl); exact rfl) | exact SetMany.nil | apply SetMany.cons | apply SetMany.succ)); done))) | (apply EvW.idxOwn; exact rfl; exact rfl; exact UndC.eq; exact SzC.eq; (focus ((repeat constructor); done)); omega; omega)))
            | refine WC.seq ?_ | refine WC.region ?_ | refine WL.nil ?_ | refine WE.next ?_ | refine WC.block ?_ | refine WC.skip ?_ | refine WC.condT rfl ?_
          (apply WL.stFld (((-9, 0, false) : Int × Int × Bool)); exact rfl; exact rfl; exact rfl; exact SzC.eq; exact rfl; exact rfl; (focus ((repeat constructor); done)); exact fun _ => rfl; omega; exact rfl; exact rfl; exact Take.head)
          refine WL.ownEq (cs' := (m.set j ((-9, 0, false) : Int × Int × Bool)).flatMap lkC) (len' := (m.set j ((-9, 0, false) : Int × Int × Bool)).length) .head (by simp) rfl ?_
          repeat first
            | (apply WL.q; exact rfl; exact rfl; exact rfl; (first | (apply EvW.move; exact rfl) | (apply EvW.arN; exact rfl; exact rfl; exact rfl; refine i64_in ?_ ?_ <;> omega)))
            | refine WC.region ?_ | refine WL.nil ?_ | refine WE.next ?_ | refine WE.out ?_
          exact WE.again (s := (j, m)) ((j + 1, m.set j (-9, 0, false))) ⟨by simp; omega, by simp [hm]⟩ (by (focus ((repeat (first | exact trivial | (refine ⟨rfl, ?_⟩))); done))) (fun _ h => (by (try simp only []); exact h.keep (by repeat constructor))) (by (try simp only []); omega)
        · repeat first
            | (apply WL.q; exact rfl; exact rfl; exact rfl; (first | (apply EvW.move; exact rfl) | (apply EvW.cmpF; exact rfl; exact rfl; exact rfl; omega) | (apply EvW.arN; exact rfl; exact rfl; exact rfl; refine i64_in ?_ ?_ <;> omega)))
            | refine WC.seq ?_ | refine WC.region ?_ | refine WL.nil ?_ | refine WE.next ?_ | refine WC.exit ?_ | refine WE.pass ?_ | refine WE.hit ?_ | refine WE.out ?_ | refine WC.condF rfl ?_
          exact WE.again (s := (1, l0, l1, l2, l3)) ((2, l0, m, l2, l3)) ⟨by simp only []; omega, by simp only []; omega, by simp only []; omega, by simp only []; omega, by simp only []; omega⟩ (by (focus ((repeat (first | exact trivial | (refine ⟨rfl, ?_⟩))); done))) (fun _ h => (by (try simp only []); exact h.keep (by repeat constructor))) (by (try simp only []); omega)
      · subst h
        repeat first
          | (apply WL.q; exact rfl; exact rfl; exact rfl; (first | (apply EvW.cmpT; exact rfl; exact rfl; exact rfl; omega) | (apply EvW.idxOwn; exact rfl; exact rfl; exact UndC.eq; exact SzC.eq; (focus ((repeat constructor); done)); omega; omega)))
          | refine WC.seq ?_ | refine WC.region ?_ | refine WL.nil ?_ | refine WE.next ?_ | refine WC.block ?_ | refine WC.skip ?_ | refine WC.condT rfl ?_
        try refine WL.wanted rfl rfl rfl ?_
        (apply WL.q; exact rfl; exact rfl; exact rfl; (apply EvW.ldOwn (i := 2) (off := 0) (q := a2); exact rfl; exact ScalC.eq; (focus ((repeat constructor); done)); rfl))
        repeat first
          | (apply WL.q; exact rfl; exact rfl; exact rfl; (first | (apply EvW.move; exact rfl) | (apply EvW.assign; exact rfl) | (apply EvW.lenOwn; exact rfl; exact UndC.eq; (focus ((repeat constructor); done)))))
          | refine WC.seq ?_ | refine WC.region ?_ | refine WL.nil ?_ | refine WE.next ?_ | refine WC.block ?_
        refine WC.loopK (σ := Nat × Looks) [5, 6, 7, 11, 12, 14, 24, 25, 26, 89, 90, 91, 96] (fun s => [(97, i64 s.1)]) (fun s => [.own 44 3 (a2) (s.2).length ((s.2).flatMap lkC), .own 44 3 (a0) (l0).length ((l0).flatMap lkC), .own 44 3 (a1) (l1).length ((l1).flatMap lkC), .own 44 3 (a3) (l3).length ((l3).flatMap lkC), .blk b12 #[a0, a1, a2, a3] 41, .blk b13 #[b0, b1, b2, b3] 41, .own 44 3 (b0) (L1).length ((L1).flatMap lkC), .own 44 3 (b1) (L2).length ((L2).flatMap lkC), .own 44 3 (b2) (L3).length ((L3).flatMap lkC), .own 44 3 (b3) (L4).length ((L4).flatMap lkC), .blk b14 #[d0, d1, d2, d3] 41, .own 44 3 (d0) (L1).length ((L1).flatMap lkC), .own 44 3 (d1) (L2).length ((L2).flatMap lkC), .own 44 3 (d2) (L3).length ((L3).flatMap lkC), .own 44 3 (d3) (L4).length ((L4).flatMap lkC), .own 39 1 (.slice (some ⟨kk, 0, none⟩) 4 4) 4 [a0, a1, a2, a3], imgH (Img.mk xb xc xv vs'), rimgH g (RImg.mk yb yr ys yt es'), imgH (newI g o), .blk q0 (cfgC g).toArray 30, .blk z #[i64 cm.now, i64 cm.oc, str cm.t] 36]) (fun s => s.1 ≤ s.2.length ∧ s.2.length = l2.length) (fun s => s.2.length - s.1) (0, l2) (by (focus ((repeat (first | exact Pick.nil | (apply Pick.cons; exact rfl))); done))) (by (focus ((repeat (first | exact trivial | (refine ⟨rfl, ?_⟩))); done))) (fun _ h => h.keep (by repeat constructor)) ⟨Nat.zero_le _, rfl⟩ (fun s hs => ?_)
        obtain ⟨j, m⟩ := s
        simp only [List.cons_append, List.nil_append] at hs ⊢
        obtain ⟨hj, hm⟩ := hs
        have hmi : (m.length : Int) = l2.length := by rw [hm]
        by_cases hlt3 : (j : Int) < l2.length
        · have hls : (m.set j ((-9, 0, false) : Int × Int × Bool)).length = m.length := List.length_set
          repeat first
            | (apply WL.q; exact rfl; exact rfl; exact rfl; (first | (apply EvW.move; exact rfl) | (apply EvW.assign; exact rfl) | (apply EvW.cmpT; exact rfl; exact rfl; exact rfl; omega) | (apply EvW.build; exact PlC.eq; exact ZvC.eq; exact rfl; exact rfl; (focus ((repeat (first | exact Fills.nil | (apply Fills.cons; exact rfl; (first | assumption | exact rfl); exact rfl) | exact SetMany.nil | apply SetMany.cons | apply SetMany.succ)); done))) | (apply EvW.idxOwn; exact rfl; exact rfl; exact UndC.eq; exact SzC.eq; (focus ((repeat constructor); done)); omega; omega)))
            | refine WC.seq ?_ | refine WC.region ?_ | refine WL.nil ?_ | refine WE.next ?_ | refine WC.block ?_ | refine WC.skip ?_ | refine WC.condT rfl ?_
          (apply WL.stFld (((-9, 0, false) : Int × Int × Bool)); exact rfl; exact rfl; exact rfl; exact SzC.eq; exact rfl; exact rfl; (focus ((repeat constructor); done)); exact fun _ => rfl; omega; exact rfl; exact rfl; exact Take.head)
          refine WL.ownEq (cs' := (m.set j ((-9, 0, false) : Int × Int × Bool)).flatMap lkC) (len' := (m.set j ((-9, 0, false) : Int × Int × Bool)).length) .head (by simp) rfl ?_
          repeat first
            | (apply WL.q; exact rfl; exact rfl; exact rfl; (first | (apply EvW.move; exact rfl) | (apply EvW.arN; exact rfl; exact rfl; exact rfl; refine i64_in ?_ ?_ <;> omega)))
            | refine WC.region ?_ | refine WL.nil ?_ | refine WE.next ?_ | refine WE.out ?_
          exact WE.again (s := (j, m)) ((j + 1, m.set j (-9, 0, false))) ⟨by simp; omega, by simp [hm]⟩ (by (focus ((repeat (first | exact trivial | (refine ⟨rfl, ?_⟩))); done))) (fun _ h => (by (try simp only []); exact h.keep (by repeat constructor))) (by (try simp only []); omega)
        · repeat first
            | (apply WL.q; exact rfl; exact rfl; exact rfl; (first | (apply EvW.move; exact rfl) | (apply EvW.cmpF; exact rfl; exact rfl; exact rfl; omega) | (apply EvW.arN; exact rfl; exact rfl; exact rfl; refine i64_in ?_ ?_ <;> omega)))
            | refine WC.seq ?_ | refine WC.region ?_ | refine WL.nil ?_ | refine WE.next ?_ | refine WC.exit ?_ | refine WE.pass ?_ | refine WE.hit ?_ | refine WE.out ?_ | refine WC.condF rfl ?_
          exact WE.again (s := (2, l0, l1, l2, l3)) ((3, l0, l1, m, l3)) ⟨by simp only []; omega, by simp only []; omega, by simp only []; omega, by simp only []; omega, by simp only []; omega⟩ (by (focus ((repeat (first | exact trivial | (refine ⟨rfl, ?_⟩))); done))) (fun _ h => (by (try simp only []); exact h.keep (by repeat constructor))) (by (try simp only []); omega)
      · subst h
        repeat first
          | (apply WL.q; exact rfl; exact rfl; exact rfl; (first | (apply EvW.cmpT; exact rfl; exact rfl; exact rfl; omega) | (apply EvW.idxOwn; exact rfl; exact rfl; exact UndC.eq; exact SzC.eq; (focus ((repeat constructor); done)); omega; omega)))
          | refine WC.seq ?_ | refine WC.region ?_ | refine WL.nil ?_ | refine WE.next ?_ | refine WC.block ?_ | refine WC.skip ?_ | refine WC.condT rfl ?_
        try refine WL.wanted rfl rfl rfl ?_
        (apply WL.q; exact rfl; exact rfl; exact rfl; (apply EvW.ldOwn (i := 3) (off := 0) (q := a3); exact rfl; exact ScalC.eq; (focus ((repeat constructor); done)); rfl))
        repeat first
          | (apply WL.q; exact rfl; exact rfl; exact rfl; (first | (apply EvW.move; exact rfl) | (apply EvW.assign; exact rfl) | (apply EvW.lenOwn; exact rfl; exact UndC.eq; (focus ((repeat constructor); done)))))
          | refine WC.seq ?_ | refine WC.region ?_ | refine WL.nil ?_ | refine WE.next ?_ | refine WC.block ?_
        refine WC.loopK (σ := Nat × Looks) [5, 6, 7, 11, 12, 14, 24, 25, 26, 89, 90, 91, 96] (fun s => [(97, i64 s.1)]) (fun s => [.own 44 3 (a3) (s.2).length ((s.2).flatMap lkC), .own 44 3 (a0) (l0).length ((l0).flatMap lkC), .own 44 3 (a1) (l1).length ((l1).flatMap lkC), .own 44 3 (a2) (l2).length ((l2).flatMap lkC), .blk b12 #[a0, a1, a2, a3] 41, .blk b13 #[b0, b1, b2, b3] 41, .own 44 3 (b0) (L1).length ((L1).flatMap lkC), .own 44 3 (b1) (L2).length ((L2).flatMap lkC), .own 44 3 (b2) (L3).length ((L3).flatMap lkC), .own 44 3 (b3) (L4).length ((L4).flatMap lkC), .blk b14 #[d0, d1, d2, d3] 41, .own 44 3 (d0) (L1).length ((L1).flatMap lkC), .own 44 3 (d1) (L2).length ((L2).flatMap lkC), .own 44 3 (d2) (L3).length ((L3).flatMap lkC), .own 44 3 (d3) (L4).length ((L4).flatMap lkC), .own 39 1 (.slice (some ⟨kk, 0, none⟩) 4 4) 4 [a0, a1, a2, a3], imgH (Img.mk xb xc xv vs'), rimgH g (RImg.mk yb yr ys yt es'), imgH (newI g o), .blk q0 (cfgC g).toArray 30, .blk z #[i64 cm.now, i64 cm.oc, str cm.t] 36]) (fun s => s.1 ≤ s.2.length ∧ s.2.length = l3.length) (fun s => s.2.length - s.1) (0, l3) (by (focus ((repeat (first | exact Pick.nil | (apply Pick.cons; exact rfl))); done))) (by (focus ((repeat (first | exact trivial | (refine ⟨rfl, ?_⟩))); done))) (fun _ h => h.keep (by repeat constructor)) ⟨Nat.zero_le _, rfl⟩ (fun s hs => ?_)
        obtain ⟨j, m⟩ := s
        simp only [List.cons_append, List.nil_append] at hs ⊢
        obtain ⟨hj, hm⟩ := hs
        have hmi : (m.length : Int) = l3.length := by rw [hm]
        by_cases hlt3 : (j : Int) < l3.length
        · have hls : (m.set j ((-9, 0, false) : Int × Int × Bool)).length = m.length := List.length_set
          repeat first
            | (apply WL.q; exact rfl; exact rfl; exact rfl; (first | (apply EvW.move; exact rfl) | (apply EvW.assign; exact rfl) | (apply EvW.cmpT; exact rfl; exact rfl; exact rfl; omega) | (apply EvW.build; exact PlC.eq; exact ZvC.eq; exact rfl; exact rfl; (focus ((repeat (first | exact Fills.nil | (apply Fills.cons; exact rfl; (first | assumption | exact rfl); exact rfl) | exact SetMany.nil | apply SetMany.cons | apply SetMany.succ)); done))) | (apply EvW.idxOwn; exact rfl; exact rfl; exact UndC.eq; exact SzC.eq; (focus ((repeat constructor); done)); omega; omega)))
            | refine WC.seq ?_ | refine WC.region ?_ | refine WL.nil ?_ | refine WE.next ?_ | refine WC.block ?_ | refine WC.skip ?_ | refine WC.condT rfl ?_
          (apply WL.stFld (((-9, 0, false) : Int × Int × Bool)); exact rfl; exact rfl; exact rfl; exact SzC.eq; exact rfl; exact rfl; (focus ((repeat constructor); done)); exact fun _ => rfl; omega; exact rfl; exact rfl; exact Take.head)
          refine WL.ownEq (cs' := (m.set j ((-9, 0, false) : Int × Int × Bool)).flatMap lkC) (len' := (m.set j ((-9, 0, false) : Int × Int × Bool)).length) .head (by simp) rfl ?_
          repeat first
            | (apply WL.q; exact rfl; exact rfl; exact rfl; (first | (apply EvW.move; exact rfl) | (apply EvW.arN; exact rfl; exact rfl; exact rfl; refine i64_in ?_ ?_ <;> omega)))
            | refine WC.region ?_ | refine WL.nil ?_ | refine WE.next ?_ | refine WE.out ?_
          exact WE.again (s := (j, m)) ((j + 1, m.set j (-9, 0, false))) ⟨by simp; omega, by simp [hm]⟩ (by (focus ((repeat (first | exact trivial | (refine ⟨rfl, ?_⟩))); done))) (fun _ h => (by (try simp only []); exact h.keep (by repeat constructor))) (by (try simp only []); omega)
        · repeat first
            | (apply WL.q; exact rfl; exact rfl; exact rfl; (first | (apply EvW.move; exact rfl) | (apply EvW.cmpF; exact rfl; exact rfl; exact rfl; omega) | (apply EvW.arN; exact rfl; exact rfl; exact rfl; refine i64_in ?_ ?_ <;> omega)))
            | refine WC.seq ?_ | refine WC.region ?_ | refine WL.nil ?_ | refine WE.next ?_ | refine WC.exit ?_ | refine WE.pass ?_ | refine WE.hit ?_ | refine WE.out ?_ | refine WC.condF rfl ?_
          exact WE.again (s := (3, l0, l1, l2, l3)) ((4, l0, l1, l2, m)) ⟨by simp only []; omega, by simp only []; omega, by simp only []; omega, by simp only []; omega, by simp only []; omega⟩ (by (focus ((repeat (first | exact trivial | (refine ⟨rfl, ?_⟩))); done))) (fun _ h => (by (try simp only []); exact h.keep (by repeat constructor))) (by (try simp only []); omega)
    · skip
      repeat first
        | (apply WL.q; exact rfl; exact rfl; exact rfl; (first | (apply EvW.cmpF; exact rfl; exact rfl; exact rfl; omega) | (apply EvW.loadAgg; exact rfl; exact AggC.eq; exact SzC.eq; (focus ((repeat constructor); done)); (focus ((repeat (first | exact SubL.nil | apply SubL.cons | apply SubL.succ)); done)))))
        | refine WC.seq ?_ | refine WC.region ?_ | refine WL.nil ?_ | refine WE.next ?_ | refine WC.exit ?_ | refine WE.pass ?_ | refine WE.hit ?_ | refine WC.condF rfl ?_
      try refine WL.wanted rfl rfl rfl ?_
      apply WL.callA ([])
      · exact rfl
      · exact rfl
      · exact fun w => Try.call22 _ w
      · (focus ((repeat constructor); done))
      · exact fun w1 S1 hS1 hs1 ho1 => sameI_spec L1 L2 L3 L4 b0 b1 b2 b3 d0 d1 d2 d3 w1 S1 hS1 (ho1 (.own 44 3 (b0) (L1).length ((L1).flatMap lkC)) _ (by repeat constructor)).own (ho1 (.own 44 3 (b1) (L2).length ((L2).flatMap lkC)) _ (by repeat constructor)).own (ho1 (.own 44 3 (b2) (L3).length ((L3).flatMap lkC)) _ (by repeat constructor)).own (ho1 (.own 44 3 (b3) (L4).length ((L4).flatMap lkC)) _ (by repeat constructor)).own (ho1 (.own 44 3 (d0) (L1).length ((L1).flatMap lkC)) _ (by repeat constructor)).own (ho1 (.own 44 3 (d1) (L2).length ((L2).flatMap lkC)) _ (by repeat constructor)).own (ho1 (.own 44 3 (d2) (L3).length ((L3).flatMap lkC)) _ (by repeat constructor)).own (ho1 (.own 44 3 (d3) (L4).length ((L4).flatMap lkC)) _ (by repeat constructor)).own (by omega) (by omega) (by omega) (by omega)
      rintro _ _ ⟨rfl, rfl⟩
      first | refine WL.app4 ?_ | refine WL.app3 ?_ | refine WL.app2 ?_ | refine WL.app1 ?_ | refine WL.app0 ?_ | skip
      repeat first
        | (apply WL.q; exact rfl; exact rfl; exact rfl; (first | (apply EvW.move; exact rfl) | (apply EvW.arN; exact rfl; exact rfl; exact rfl; refine i64_in ?_ ?_ <;> omega) | (apply EvW.notT; exact rfl)))
        | refine WC.region ?_ | refine WL.nil ?_ | refine WE.next ?_ | refine WC.skip ?_ | refine WE.out ?_ | refine WC.condF rfl ?_
      exact WE.again (s := (i, vs, es)) ((i + 1, vs', es')) ⟨by simp only []; omega, hA2⟩ (by (focus ((repeat (first | exact trivial | (refine ⟨rfl, ?_⟩))); done))) (fun _ h => (by (try simp only []); exact h.keep (by repeat constructor))) (by (try simp only []); omega)
  · repeat first
      | (apply WL.q; exact rfl; exact rfl; exact rfl; (first | (apply EvW.move; exact rfl) | (apply EvW.cmpF; exact rfl; exact rfl; exact rfl; omega)))
      | refine WC.seq ?_ | refine WC.region ?_ | refine WL.nil ?_ | refine WE.next ?_ | refine WC.exit ?_ | refine WE.pass ?_ | refine WE.hit ?_ | refine WC.condF rfl ?_
    try refine WL.wanted rfl rfl rfl ?_
    apply WL.callA ([])
    · exact rfl
    · exact rfl
    · exact fun w => Try.call19 _ w
    · (focus ((repeat constructor); done))
    · exact fun w1 S1 hS1 hs1 ho1 => lostI_spec (newI g o) w1 S1 hS1 (img_seen (ho1 (imgH (newI g o)) _ (by repeat constructor)) (hO.xok hsm)) (hO.lostX (by decide))
    rintro _ _ ⟨rfl, rfl⟩
    first | refine WL.app4 ?_ | refine WL.app3 ?_ | refine WL.app2 ?_ | refine WL.app1 ?_ | refine WL.app0 ?_ | skip
    rw [show (newI g o).lost 4 = 0 from by kernel_rfl]
    repeat first
      | (apply WL.q; exact rfl; exact rfl; exact rfl; (first | (apply EvW.assign; exact rfl) | (apply EvW.cmpT; exact rfl; exact rfl; exact rfl; omega)))
      | refine WL.nil ?_ | refine WE.next ?_ | refine WC.ret ?_
    refine WE.bare ?_
    refine WE.ret1 rfl rfl ?_
    rfl
end Go.Proofs.Ytamofjpadnnppaa
namespace Go.Proofs.Ytamofjpadnnppaa
open Go.RowKit Go.BK Go.ChangeShapes Go.WideShapes Go.ChangeAt Go.ChangeMaps Go.Deep
theorem flat_one {α : Type} (f : α → Value) (l : List α) : (l.flatMap fun a => [f a]) = l.map f := by
  induction l with
  | nil => rfl
  | cons x r ih => rw [List.flatMap_cons, ih]; rfl
theorem wf_i64 {a : Int} (h : (Lit.int .i64 a).wf = true) : -9223372036854775808 ≤ a ∧ a ≤ 9223372036854775807 := by
  simp only [Lit.wf, Bool.and_eq_true, decide_eq_true_eq] at h
  exact h
section
variable {H : Type} {enc : TypeId × Value → H} {P : Program} {W : World}
/-- What is read as type e is f of something of which Q holds, and whose measure is at most the reading's bulk. -/
def OpensU (enc : TypeId × Value → H) (P : Program) (W : World) (e : TypeId) {α : Type} (f : α → List Value) (Q : α → Prop) (μ : α → Nat) : Prop :=
  ∀ n cs x, DataW.trod enc P W 0 (fun _ => true) true n e cs = some x → ∃ a, cs = f a ∧ Q a ∧ μ a ≤ Rows.uptoBulk x.1
theorem OpensU.map {e : TypeId} {α β : Type} {f : α → List Value} {Q : α → Prop} {μ : α → Nat} {f' : β → List Value} {Q' : β → Prop} {μ' : β → Nat} (h : OpensU enc P W e f Q μ) (g : α → β) (hf : ∀ a, Q a → f a = f' (g a)) (hQ : ∀ a, Q a → Q' (g a)) (hμ : ∀ a, Q a → μ' (g a) ≤ μ a) : OpensU enc P W e f' Q' μ' :=
  fun n cs x hx => by
    obtain ⟨a, h1, h2, h3⟩ := h n cs x hx
    exact ⟨g a, by rw [h1, hf a h2], hQ a h2, Nat.le_trans (hμ a h2) h3⟩
theorem OpensU.int {e : TypeId} {k : IntKind} (hu : P.underlying e = some (.int k)) : OpensU enc P W e (fun a : Int => [.int k a]) (fun a => (Lit.int k a).wf = true) (fun _ => 1) :=
  fun n cs x hx => by
    obtain ⟨a, h1, h3, h2⟩ := DataW.trod_int hu hx
    exact ⟨a, h1, h2, by rw [h3]; simp [Rows.uptoBulk]⟩
theorem OpensU.bool {e : TypeId} (hu : P.underlying e = some .bool) : OpensU enc P W e (fun a : Bool => [.bool a]) (fun _ => True) (fun _ => 1) :=
  fun n cs x hx => by
    obtain ⟨a, h1, h3⟩ := DataW.trod_bool hu hx
    exact ⟨a, h1, trivial, by rw [h3]; simp [Rows.uptoBulk]⟩
theorem OpensU.str {e : TypeId} (hu : P.underlying e = some .string) : OpensU enc P W e (fun l : List UInt8 => [str l]) (fun _ => True) (fun l => l.length + 1) :=
  fun n cs x hx => by
    obtain ⟨s, h1, h2, _⟩ := DataW.trod_string hu hx
    exact ⟨s.data.toList, by rw [h1], trivial, by rw [h2]; simp [Rows.uptoBulk]⟩
theorem bulk_sum {α : Type} {μ : α → Nat} {D : Nat → DataW H} : ∀ {xs : List α} {m : Nat}, (∀ i a, xs[i]? = some a → μ a ≤ Rows.uptoBulk (D (m + i))) → (xs.map μ).sum ≤ Rows.uptoBulkAll ((List.range' m xs.length).map D) := by
  intro xs
  induction xs with
  | nil => intro m _; simp [Rows.uptoBulkAll]
  | cons x r ih =>
    intro m h
    have h0 := h 0 x rfl
    have := ih (m := m + 1) fun i a hi => by
      have := h (i + 1) a (by simpa using hi)
      rwa [Nat.add_assoc, Nat.add_comm 1 i]
    simp only [List.map_cons, List.sum_cons, List.length_cons, List.range'_succ, Rows.uptoBulkAll]
    rw [Nat.add_zero] at h0
    omega
theorem OpensU.slice {t e : TypeId} {sz : Nat} {α : Type} {f : α → List Value} {Q : α → Prop} {μ : α → Nat} (ht : P.underlying t = some (.slice e)) (hsz : P.cellsOf e = sz) (hpos : 0 < sz) (hf : ∀ a, (f a).length = sz) (h : OpensU enc P W e f Q μ) :
    OpensU enc P W t (fun p : Value × List α => [p.1]) (fun p => Sees W (fun _ => False) (.row sz p.1 p.2.length (p.2.flatMap f)) ∧ ∀ x ∈ p.2, Q x) (fun p => (p.2.map μ).sum + 1) := by
  intro n cs x hx
  rcases open_slice ht hx with ⟨h1, h2⟩ | ⟨a, len, cap, m, n', D, Pl, rfl, _, hl, _, hmm, rfl, hel⟩
  · exact ⟨(.slice none 0 0, []), h1, ⟨Sees.nilRow, fun x hx => by cases hx⟩, by rw [h2]; simp [Rows.uptoBulk]⟩
  · simp only [↓reduceIte] at hmm
    subst hmm
    have hmem : ∀ i, i < len → ∃ q : α, (∃ cs', W.cells? 0 (a.add (i * P.cellsOf e)) (P.cellsOf e) = some cs' ∧ cs' = f q) ∧ Q q ∧ μ q ≤ Rows.uptoBulk (D i) := fun i hi => by
      obtain ⟨cs', h1, h2⟩ := hel i (by omega)
      obtain ⟨q, h3, h4⟩ := h n' cs' _ h2
      exact ⟨q, ⟨cs', h1, h3⟩, h4⟩
    obtain ⟨xs, hxl, hxs⟩ := exists_list len hmem
    refine ⟨(.slice (some a) len m, xs), rfl, ⟨?_, fun q hq => ?_⟩, ?_⟩
    · simp only []
      rw [hxl]
      have hfl : (xs.flatMap f).length = len * sz := by rw [flat_length hf, hxl]
      refine row_of_cells hfl hl hpos fun k u hk => ?_
      obtain ⟨i, j, q, h1, h2, h3, h4⟩ := flat_at hf hk
      obtain ⟨⟨cs', h5, h6⟩, _⟩ := hxs i q h3
      obtain ⟨_, hlen, hcell⟩ := World.cells?_some h5
      have := hcell j (by rw [hsz]; exact h2)
      rw [add_add, hsz, ← h1] at this
      rw [this, h6, h4]
    · obtain ⟨i, hi, rfl⟩ := List.getElem_of_mem hq
      exact (hxs i _ (List.getElem?_eq_getElem hi)).2.1
    · have := bulk_sum (μ := μ) (D := D) (xs := xs) (m := 0) fun i a hi => by rw [Nat.zero_add]; exact (hxs i a hi).2.2
      rw [hxl, ← List.range_eq_range'] at this
      simp only [Rows.uptoBulk]
      omega
/-- Fields, from a place on. -/
def FOU (enc : TypeId × Value → H) (P : Program) (W : World) (off : Nat) (fs : List Field) {α : Type} (f : α → List Value) (Q : α → Prop) (μ : α → Nat) : Prop :=
  ∀ n (cs : List Value) (xs : List (DataW H × List MemPlace)), cs.length = off + (fs.map fun g => P.cellsOf g.type).sum → xs.length = fs.length →
    (∀ (i : Nat) (g : Field), fs[i]? = some g → DataW.trod enc P W 0 (fun _ => true) true n g.type ((cs.drop g.offset).take (P.cellsOf g.type)) = xs[i]?) → ∃ a, cs.drop off = f a ∧ Q a ∧ μ a ≤ Rows.uptoBulkAll (xs.map (·.1))
theorem FOU.nil {off : Nat} : FOU enc P W off [] (fun _ : Unit => []) (fun _ => True) (fun _ => 0) := fun n cs xs hl _ _ => ⟨(), by simp at hl; simp [hl], trivial, Nat.zero_le _⟩
theorem FOU.cons {off off' : Nat} {g : Field} {fs : List Field} {α β : Type} {f1 : α → List Value} {Q1 : α → Prop} {μ1 : α → Nat} {f2 : β → List Value} {Q2 : β → Prop} {μ2 : β → Nat} (h1 : OpensU enc P W g.type f1 Q1 μ1) (ho : g.offset = off) (hoff : off + P.cellsOf g.type = off') (h2 : FOU enc P W off' fs f2 Q2 μ2) :
    FOU enc P W off (g :: fs) (fun p : α × β => f1 p.1 ++ f2 p.2) (fun p => Q1 p.1 ∧ Q2 p.2) (fun p => μ1 p.1 + μ2 p.2) := by
  intro n cs xs hl hxl hx
  cases xs with
  | nil => simp at hxl
  | cons x xs =>
    subst hoff
    obtain ⟨a, ha, qa, ma⟩ := h1 n _ x (hx 0 g rfl)
    obtain ⟨b, hb, qb, mb⟩ := h2 n cs xs (by simp at hl; omega) (by simpa using hxl) (fun i g' hg => by simpa using hx (i + 1) g' (by simpa using hg))
    refine ⟨(a, b), ?_, ⟨qa, qb⟩, by simp only [List.map_cons, Rows.uptoBulkAll]; omega⟩
    simp only []
    rw [← ha, ← hb, ho, ← List.drop_drop, List.take_append_drop]
theorem OpensU.struct {t : TypeId} {fs : Array Field} {α : Type} {f : α → List Value} {Q : α → Prop} {μ : α → Nat} (hu : P.underlying t = some (.struct fs)) (hc : P.cellsOf t = (fs.toList.map fun g => P.cellsOf g.type).sum) (h : FOU enc P W 0 fs.toList f Q μ) : OpensU enc P W t f Q (fun a => μ a + 1) := by
  intro n cs x hx
  obtain ⟨xs, n', _, rfl, hl, hxl, hel⟩ := DataW.trod_struct hu hx
  obtain ⟨a, h1, h2, h3⟩ := h n' cs xs (by rw [hl, hc]; omega) (by simpa using hxl) (fun i g hg => hel i g (by simpa using hg))
  exact ⟨a, by simpa using h1, h2, by simp only [Rows.uptoBulk]; omega⟩
/-- An argument, opened. -/
theorem OpensU.arg {t : TypeId} {α : Type} {f : α → List Value} {Q : α → Prop} {μ : α → Nat} (h : OpensU enc P W t f Q μ) {v : Value} {d : DataW H} {ps : List MemPlace} (hd : DataW.Trod enc P W 0 (fun _ => true) true t v d ps) : ∃ a, v.cells.toList = f a ∧ Q a ∧ μ a ≤ Rows.uptoBulk d := by
  obtain ⟨n, hn⟩ := hd
  exact h n _ _ hn
theorem argU_agg {t : TypeId} {α : Type} {f : α → List Value} {Q : α → Prop} {μ : α → Nat} (h : OpensU enc P W t f Q μ) {v : Value} {d : DataW H} {ps : List MemPlace} (hag : ∃ cs, v = .agg cs) (hd : DataW.Trod enc P W 0 (fun _ => true) true t v d ps) : ∃ a, v = .agg (f a).toArray ∧ Q a ∧ μ a ≤ Rows.uptoBulk d := by
  obtain ⟨cs, rfl⟩ := hag
  obtain ⟨a, h1, h2⟩ := h.arg hd
  exact ⟨a, by rw [← h1]; simp [Value.cells], h2⟩
theorem argU_slice {t e : TypeId} {sz : Nat} {α : Type} {f : α → List Value} {Q : α → Prop} {μ : α → Nat} (ht : P.underlying t = some (.slice e)) (hsz : P.cellsOf e = sz) (hpos : 0 < sz) (hf : ∀ a, (f a).length = sz) (h : OpensU enc P W e f Q μ)
    {base : Nat} {v : Value} {d : DataW H} {ps : List MemPlace} (hval : Value.okWide P W .any base t v) (hd : DataW.Trod enc P W 0 (fun _ => true) true t v d ps) :
    ∃ xs : List α, Sees W (fun _ => False) (.row sz v xs.length (xs.flatMap f)) ∧ (∀ x ∈ xs, Q x) ∧ (xs.map μ).sum + 1 ≤ Rows.uptoBulk d := by
  obtain ⟨a0, len, cap, rfl⟩ := okWide_slice ht hval
  obtain ⟨⟨u, xs⟩, h1, ⟨h2, h3⟩, h4⟩ := (OpensU.slice ht hsz hpos hf h).arg hd
  have : u = .slice a0 len cap := by simpa [Value.cells] using h1.symm
  subst this
  exact ⟨xs, h2, h3, h4⟩
/-- A law of the second form: its call answers true, and turns nothing that was there. -/
theorem law_liftedU {C : Checked} {os : Os} {f : FuncId} {fn : Func} {s : ChangeSpec} {F : Stop.Interp} {conds : List PathCond} {tb : TypeId}
    (own : ownKnob C.prog.godebug = none) (started : os.Started) (noInit : C.prog.inits.idxOf? f = none) (hfn : C.prog.funcs[f]? = some fn) (hb : fn.resultTypes = #[tb]) (hub : C.prog.underlying tb = some .bool) (hv : s.vars = [])
    (hl : laidOutB C.prog = true) (hread : (fn.params.toList.all fun t => C.prog.readableRec t && decide (t < C.prog.types.size)) = true)
    (hs : ∀ ds : List (DataW H), ds.length = fn.params.toList.length → s.fn H ds = { results := [.lit (.bool true)], args := ds })
    (witness : ∃ (w : World) (tape : Tape) (i : Input), w.os = os ∧ (w.forCall tape i).Shaped C.prog ∧ i.vars = [] ∧ Input.okWide C.prog (w.forCall tape i) .any w.heap.size f i ∧
      (Rows.OpenSpec.upto s).pre6 enc C.prog fn conds false (w.forCall tape i).memory i.args ∧ (({} : Assume)).holds C.prog (lone (Frame.enter C.prog f i.args .normal) [] (w.forCall tape i)))
    (contract : ∀ (W : World) (base : Nat) (args : Array Value) (ds : List (DataW H)) (p : List MemPlace),
      (∀ (j : Nat) t v, fn.params[j]? = some t → args[j]? = some v → Value.okWide C.prog W .any base t v) → DataW.TrodAll enc C.prog W 0 (fun _ => true) true fn.params.toList args.toList ds p →
      Rows.uptoBulkAll ds ≤ 1048576 → Calls C.prog f args W fun e W' => e = .returned (.bool true) ∧ Below W.heap.size W W') :
    ReturnsInHanded {} C os f .any ((Rows.OpenSpec.upto s).pre6 enc C.prog fn conds false) (((Rows.OpenSpec.upto s).at F).post enc C.prog fn false true false false) := by
  refine returnsInHanded_of_cond (s := Rows.OpenSpec.upto s) (k := Rows.uptoSmall) rfl own started noInit hfn witness ?_
  intro W base args ds gs before hval hW _ hk _
  have hW' := hW
  obtain ⟨p, q, hA, hV, rfl, _, _⟩ := hW
  rw [show (Rows.OpenSpec.upto s).vars = s.vars from rfl, hv] at hV
  obtain ⟨rfl, rfl⟩ := trodVars_none hV
  have hbulk : Rows.uptoBulkAll ds ≤ 1048576 := by
    have : Rows.uptoBulkAll (ds ++ []) ≤ 1048576 := of_decide_eq_true hk
    rwa [List.append_nil] at this
  refine (contract W base args ds p hval hA hbulk).mono fun e W' ⟨he, hbel⟩ => ?_
  have hds : ds.length = fn.params.toList.length := trodAll_length _ _ _ _ hA
  have hlt : ∀ x ∈ p, x.block < W.heap.size := fun x hx => hW'.lt x (List.mem_append_left _ hx)
  have hfn' : ((Rows.OpenSpec.upto s).at F).fn = s.fn := rfl
  have hvars' : ((Rows.OpenSpec.upto s).at F).vars = s.vars := rfl
  refine ⟨_, he, ds, [], p ++ [], [], p, [], hW', ?_, ?_, ?_, hbel.frame _, fun h => by cases h⟩
  · rw [List.append_nil, hfn', hs ds hds, hb]
    simp only [Value.resultList]
    exact ⟨[], [], shut_bool hub true, rfl, rfl⟩
  · rw [List.append_nil, hfn', hs ds hds]
    exact trodAll_stay hl hbel _ _ _ _ (fun t ht => by
      have := List.all_eq_true.1 hread t ht
      simpa using this) hA hlt
  · rw [List.append_nil, hfn', hs ds hds, hvars', hv]; rfl
end
end Go.Proofs.Ytamofjpadnnppaa
namespace Go.Proofs.Ytamofjpadnnppaa
open Go.RowKit Go.BK
theorem Try.own : ownKnob Try.prog.godebug = none := by kernel_rfl
theorem Try.laidOut : laidOutB Try.prog = true := by kernel_rfl
end Go.Proofs.Ytamofjpadnnppaa
