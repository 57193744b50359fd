/- Own lemmas: the texts ImageC, LibZ, TeleB, TeleC, ImageD, ImageE, ImageF, ImageG, ImageI, ImageK, ImageL, LinkD, LinkF, ImageM, ImageN, LibU, PackO, ImageO, TeleQ, ImageT. -/
import Derived.JoinedCond
import Derived.OpenShut
import Derived.Test.YtamofjpadnnppaaRows
import Derived.Test.YtamofjpadnnppaaImagePdM3
namespace Go.Proofs.Ytamofjpadnnppaa
open Go.RowKit Go.BK
theorem range_map {α : Type} (f : Nat → α) (i : Nat) : (List.range (i + 1)).map f = (List.range i).map f ++ [f i] := by rw [List.range_succ, List.map_append]; rfl
abbrev Looks := List (Int × Int × Bool)
theorem looks_snoc (l : Looks) (x : Int × Int × Bool) : l.flatMap lkC ++ [i64 x.1, i64 x.2.1, .bool x.2.2] = (l ++ [x]).flatMap lkC := by rw [List.flatMap_append]; simp [lkC]
theorem looks_len (l : Looks) (x : Int × Int × Bool) : l.length + 1 = (l ++ [x]).length := by simp
def Img.occ (x : Img) (now : Int) (i : Nat) : Looks := (List.range i).map fun (k : Nat) => x.lookV selA now k k 1
def Img.pos (x : Img) (now : Int) (i : Nat) : Looks := (List.range i).map fun (k : Nat) => x.lookV selB now k k 0
def Img.shut (x : Img) (now : Int) (i : Nat) : Looks := (List.range i).map fun (k : Nat) => x.lookV selY now (x.c.crs.getD k 0) k 0
def Img.lamp (x : Img) (now : Int) (i : Nat) : Looks := (List.range i).map fun (k : Nat) => x.lookV selD now (x.c.sigs.getD k default).s k 0
theorem Img.occ_len (x : Img) (now : Int) (i : Nat) : (x.occ now i).length = i := by simp [Img.occ]
theorem Img.pos_len (x : Img) (now : Int) (i : Nat) : (x.pos now i).length = i := by simp [Img.pos]
theorem Img.shut_len (x : Img) (now : Int) (i : Nat) : (x.shut now i).length = i := by simp [Img.shut]
theorem Img.lamp_len (x : Img) (now : Int) (i : Nat) : (x.lamp now i).length = i := by simp [Img.lamp]
structure Cfg.Small (c : Cfg) : Prop where
  s : c.secs.length ≤ 1048576
  g : c.sigs.length ≤ 1048576
  r : c.crs.length ≤ 1048576
structure Img.Sound (x : Img) (now : Int) : Prop where
  a : ∀ oc, aliveP x.st now x.c.age oc = true → (x.vs.getD oc.toNat default).sd.la.length = (x.vs.getD oc.toNat default).sh.la.length
  b : ∀ oc, aliveP x.st now x.c.age oc = true → (x.vs.getD oc.toNat default).sd.lb.length = (x.vs.getD oc.toNat default).sh.lb.length
  y : ∀ oc, aliveP x.st now x.c.age oc = true → (x.vs.getD oc.toNat default).sd.ly.length = (x.vs.getD oc.toNat default).sh.ly.length
  d : ∀ oc, aliveP x.st now x.c.age oc = true → (x.vs.getD oc.toNat default).sd.ld.length = (x.vs.getD oc.toNat default).sh.ld.length
theorem Img.Sound.ga {x : Img} {now : Int} (h : x.Sound now) : x.Good now selA := ⟨fun h => ⟨h.a, h.na⟩, h.a⟩
theorem Img.Sound.gb {x : Img} {now : Int} (h : x.Sound now) : x.Good now selB := ⟨fun h => ⟨h.b, h.nb⟩, h.b⟩
theorem Img.Sound.gy {x : Img} {now : Int} (h : x.Sound now) : x.Good now selY := ⟨fun h => ⟨h.y, h.ny⟩, h.y⟩
theorem Img.Sound.gd {x : Img} {now : Int} (h : x.Sound now) : x.Good now selD := ⟨fun h => ⟨h.d, h.nd⟩, h.d⟩
set_option maxHeartbeats 1000000 in
theorem view_spec (x : Img) (now : Int) (w : World) (S : BSet) (hS : (sepL []).sat S w) (hx : x.Seen w S) (hw : now ≤ 9223372036854775807) (hs : x.c.Small) (hG : x.Sound now) :
    Tri Try.prog 10 #[ptr x.b 0, i64 now] w S fun u A => ∃ a b d e : Value, u = .agg #[a, b, d, e] ∧ A = [.own 44 3 (a) (x.occ now x.c.secs.length).length ((x.occ now x.c.secs.length).flatMap lkC), .own 44 3 (b) (x.pos now x.c.secs.length).length ((x.pos now x.c.secs.length).flatMap lkC), .own 44 3 (d) (x.shut now x.c.crs.length).length ((x.shut now x.c.crs.length).flatMap lkC), .own 44 3 (e) (x.lamp now x.c.sigs.length).length ((x.lamp now x.c.sigs.length).flatMap lkC)] := by
  refine Tri.enter (l := [ptr x.b 0, i64 now]) Try.func10 rfl Try.ntmps10 rfl [(0, ptr x.b 0), (1, i64 now)] (subA rfl) hS ?_
  have hB := hx.blk
  have hsec := hx.c.secs
  have hsig := hx.c.sigs
  have hcrs := hx.c.crs
  obtain ⟨hnS, hnG, hnC⟩ := hs
  repeat first
    | refine WC.seq ?_ | refine WC.region ?_
  try refine WL.wanted rfl rfl rfl ?_
  (apply WL.alloc; exact rfl; exact ZvC.eq; exact rfl; intro r)
  repeat first
    | refine WC.seq ?_ | refine WC.region ?_ | refine WL.nil ?_ | refine WE.next ?_
  try refine WL.wanted rfl rfl rfl ?_
  (apply WL.alloc; exact rfl; exact ZvC.eq; exact rfl; intro q)
  repeat first
    | (apply WL.q; exact rfl; exact rfl; exact rfl; (first | (apply EvW.move; exact rfl) | (apply EvW.nilPtr; exact rfl) | (apply EvW.fieldAddr0; exact rfl; exact FldC.eq) | (apply EvW.ldSeen; exact rfl; exact ScalC.eq; assumption; (first | exact rfl | assumption)) | (apply EvW.lenRow; exact rfl; exact UndC.eq; assumption)))
    | refine WC.seq ?_ | refine WC.region ?_ | refine WL.nil ?_ | refine WE.next ?_ | refine WC.block ?_
  refine WC.ownNil 44 3 ?_
  refine WC.ownNil 44 3 ?_
  refine WC.ownNil 44 3 ?_
  refine WC.ownNil 44 3 ?_
  refine WC.loopK (σ := Nat × Value × Value) [0, 1, 4, 5, 16] (fun s => [(17, i64 s.1)]) (fun s => [.own 44 3 (s.2.1) (x.occ now s.1).length ((x.occ now s.1).flatMap lkC), .own 44 3 (s.2.2) (x.pos now s.1).length ((x.pos now s.1).flatMap lkC), .own 44 3 (.slice none 0 0) 0 [], .own 44 3 (.slice none 0 0) 0 [], .blk q #[s.2.1, s.2.2, (.slice none 0 0), (.slice none 0 0)] 41, .blk r #[(.slice none 0 0), (.slice none 0 0), (.slice none 0 0), (.slice none 0 0)] 41]) (fun s => s.1 ≤ x.c.secs.length) (fun s => x.c.secs.length - s.1) (0, .slice none 0 0, .slice none 0 0) (by (focus ((repeat (first | exact Pick.nil | (apply Pick.cons; exact rfl))); done))) (by (focus ((repeat (first | exact trivial | (refine ⟨rfl, ?_⟩))); done))) (fun _ h => h.keep (by repeat constructor)) (Nat.zero_le _) (fun s hs => ?_)
  obtain ⟨i, a, b⟩ := s
  simp only [List.cons_append, List.nil_append] at hs ⊢
  by_cases hlt : (i : Int) < x.c.secs.length
  · have hl1 := x.occ_len now i
    have hl2 := x.pos_len now i
    have hl_occ := x.occ_len now i
    have e_occ : x.occ now (i + 1) = x.occ now i ++ [x.lookV selA now i i 1] := range_map _ i
    obtain ⟨L_occ, hL_occ⟩ : ∃ L, x.lookV selA now i i 1 = L := ⟨_, rfl⟩
    rw [hL_occ] at e_occ
    have hl_pos := x.pos_len now i
    have e_pos : x.pos now (i + 1) = x.pos now i ++ [x.lookV selB now i i 0] := range_map _ i
    obtain ⟨L_pos, hL_pos⟩ : ∃ L, x.lookV selB now i i 0 = L := ⟨_, rfl⟩
    rw [hL_pos] at e_pos
    repeat first
      | (apply WL.q; exact rfl; exact rfl; exact rfl; (first | (apply EvW.move; exact rfl) | (apply EvW.assign; exact rfl) | (apply EvW.cmpT; exact rfl; exact rfl; exact rfl; omega)))
      | refine WC.seq ?_ | refine WC.region ?_ | refine WL.nil ?_ | refine WE.next ?_ | refine WC.block ?_ | refine WC.skip ?_ | refine WC.condT rfl ?_
    repeat refine WC.seq ?_
    refine WC.keep (xs := [.blk q #[a, b, (.slice none 0 0), (.slice none 0 0)] 41, .own 44 3 (a) (x.occ now i).length ((x.occ now i).flatMap lkC), .own 44 3 (b) (x.pos now i).length ((x.pos now i).flatMap lkC), .own 44 3 (.slice none 0 0) 0 [], .own 44 3 (.slice none 0 0) 0 [], .blk r #[(.slice none 0 0), (.slice none 0 0), (.slice none 0 0), (.slice none 0 0)] 41]) (by repeat constructor) ?_
    apply WC.par _ (fun c : Ch => [.blk q #[a, b, (.slice none 0 0), (.slice none 0 0)] 41, .blk q #[(c 8).2, b, (.slice none 0 0), (.slice none 0 0)] 41, .own 44 3 (a) (x.occ now i).length ((x.occ now i).flatMap lkC), .blk (c 7).1 #[i64 L_occ.1, i64 L_occ.2.1, .bool L_occ.2.2] 44, .own 44 3 ((c 8).2) ((x.occ now i).length + 1) ((x.occ now i).flatMap lkC ++ [i64 L_occ.1, i64 L_occ.2.1, .bool L_occ.2.2]), .own 44 3 (b) (x.pos now i).length ((x.pos now i).flatMap lkC), .own 44 3 (.slice none 0 0) 0 [], .own 44 3 (.slice none 0 0) 0 [], .blk r #[(.slice none 0 0), (.slice none 0 0), (.slice none 0 0), (.slice none 0 0)] 41]) [none, some 10, none, some 7, some 8, none, none, none, none] [some 10, none, some 8, some 8, none, none, none, none, none] [(7, fun x => .slice (some ⟨x.1, 0, none⟩) 1 1), (8, fun x => x.2)] Try.mixed
    · (focus ((repeat (first | exact Restr.nil | (apply Restr.keep; exact rfl; exact rfl) | (apply Restr.drop; exact rfl))); done))
    · intro c; exact (by repeat constructor)
    · exact rfl
    · decide +kernel
    · decide +kernel
    · intro c
      (apply Par.quiet _ [true, false, true, false, false, true, true, true, true]; exact rfl; decide +kernel; exact rfl; intro R; refine ⟨_, (by repeat constructor), ?_⟩;
           (first | (apply EvW.fieldAddr0; exact rfl; exact FldC.eq)))
      (apply Par.quiet _ [true, false, true, false, false, true, true, true, true]; exact rfl; decide +kernel; exact rfl; intro R; refine ⟨_, (by repeat constructor), ?_⟩;
           (first | (apply EvW.load; exact rfl; exact ScalC.eq; (focus ((repeat constructor); done)); exact rfl)))
      (apply Par.quiet _ [true, false, true, false, false, true, true, true, true]; exact rfl; decide +kernel; exact rfl; intro R; refine ⟨_, (by repeat constructor), ?_⟩;
           (first | (apply EvW.move; exact rfl)))
      (apply Par.quiet _ [true, false, true, false, false, true, true, true, true]; exact rfl; decide +kernel; exact rfl; intro R; refine ⟨_, (by repeat constructor), ?_⟩;
           (first | (apply EvW.move; exact rfl)))
      (apply Par.quiet _ [true, false, true, false, false, true, true, true, true]; exact rfl; decide +kernel; exact rfl; intro R; refine ⟨_, (by repeat constructor), ?_⟩;
           (first | (apply EvW.move; exact rfl)))
      (apply Par.quiet _ [true, false, true, false, false, true, true, true, true]; exact rfl; decide +kernel; exact rfl; intro R; refine ⟨_, (by repeat constructor), ?_⟩;
           (first | (apply EvW.move; exact rfl)))
      apply Par.quiet _ [true, false, true, false, false, true, true, true, true]
      · exact rfl
      · decide +kernel
      · exact rfl
      · intro R
        refine ⟨_, (by repeat constructor), ?_⟩
        apply EvW.callK ([])
        · exact rfl
        · exact fun w => Try.call32 _ w
        · (focus ((repeat constructor); done))
        · exact fun w1 S1 hS1 hs1 ho1 => lookI_spec x now i i 1 _ selA L_occ w1 S1 hS1 (hx.down hs1) hw place1 hG.ga hL_occ
        · exact fun _ _ h => h
      (apply Par.new _ [false, false, false, false, false, false, false, false, false] [false, false, false, true, false, false, false, false, false] [true, false, true, false, false, true, true, true, true]; exact rfl; exact rfl; decide +kernel; intro R; refine ⟨_, _, _, (by repeat constructor), (by repeat constructor), (fun x => (by repeat constructor)), ?_⟩; (apply NewW.buildSlice; exact UndC.eq; exact SzC.eq; exact ZvC.eq; exact rfl; exact rfl; exact rfl; (focus ((repeat (first | exact Flat.nil | (apply Flat.one; (first | exact rfl | assumption)) | (apply Flat.cons; exact rfl; exact rfl))); done)); exact rfl; exact rfl; exact fun _ => rfl))
      apply Par.new _ [false, false, true, true, false, false, false, false, false] [false, false, false, false, true, false, false, false, false] [true, false, false, false, false, true, true, true, true]
      · exact rfl
      · exact rfl
      · decide +kernel
      · intro R
        refine ⟨_, _, _, (by repeat constructor), (by repeat constructor), (fun x => (by repeat constructor)), ?_⟩
        (apply NewW.append; exact rfl; exact rfl; exact UndC.eq; exact SzC.eq; exact ByC.eq; exact ZvC.eq; exact rfl; (first | exact notInt_sl UndC.eq | exact notInt_st UndC.eq); exact rfl; (focus ((repeat constructor); done)))
        · exact adds_blk (by repeat constructor) rfl rfl
        · (rw [hl_occ]; omega)
        · exact fun _ _ h => TakeT.st (by (focus ((repeat (first | exact TakeT.tail | apply TakeT.cons | exact Take.head | apply Take.tail | apply TakeT.drop)); done))) h
      (apply Par.quiet _ [true, false, false, false, true, true, true, true, true]; exact rfl; decide +kernel; exact rfl; intro R; refine ⟨_, (by repeat constructor), ?_⟩;
           (first | (apply EvW.fieldAddr0; exact rfl; exact FldC.eq)))
      apply Par.eff _ [true, false, false, false, false, false, false, false, false] [false, true, false, false, false, false, false, false, false] [false, false, false, false, true, true, true, true, true]
      · exact rfl
      · exact rfl
      · decide +kernel
      · intro R
        refine ⟨_, _, _, (by repeat constructor), (by repeat constructor), (by repeat constructor), ?_⟩
        (apply EffW.storeSl; exact rfl; exact rfl; (focus ((repeat constructor); done)); exact SzC.eq; (focus ((repeat constructor); done)))
      exact Par.nil
    · repeat (first | exact AllN.nil | (apply AllN.cons; (intro c x; (repeat (first | exact IndA.nil | (apply IndA.skip; decide +kernel) | apply IndA.same))))) 
    · repeat (first | exact AllN.nil | (apply AllN.cons; (intro c x; (repeat (first | exact IndT.nil | (apply IndT.skip; decide +kernel) | apply IndT.same))))) 
    · exact fun _ => rfl
    intro c
    refine ⟨_, (by repeat constructor), ?_⟩
    apply WE.writ
    · (focus ((repeat (first | exact Writ.nil | apply Writ.some | apply Writ.none)); done))
    generalize (c 7).1 = b7
    generalize (c 8).2 = a2
    rw [looks_snoc, looks_len, ← e_occ]
    repeat first
      | refine WE.next ?_
    repeat refine WC.seq ?_
    refine WC.keep (xs := [.blk q #[a2, b, (.slice none 0 0), (.slice none 0 0)] 41, .own 44 3 (b) (x.pos now i).length ((x.pos now i).flatMap lkC), .own 44 3 (a2) (x.occ now (i + 1)).length ((x.occ now (i + 1)).flatMap lkC), .own 44 3 (.slice none 0 0) 0 [], .own 44 3 (.slice none 0 0) 0 [], .blk r #[(.slice none 0 0), (.slice none 0 0), (.slice none 0 0), (.slice none 0 0)] 41]) (by repeat constructor) ?_
    apply WC.par _ (fun c : Ch => [.blk q #[a2, b, (.slice none 0 0), (.slice none 0 0)] 41, .blk q #[a2, (c 8).2, (.slice none 0 0), (.slice none 0 0)] 41, .own 44 3 (b) (x.pos now i).length ((x.pos now i).flatMap lkC), .blk (c 7).1 #[i64 L_pos.1, i64 L_pos.2.1, .bool L_pos.2.2] 44, .own 44 3 ((c 8).2) ((x.pos now i).length + 1) ((x.pos now i).flatMap lkC ++ [i64 L_pos.1, i64 L_pos.2.1, .bool L_pos.2.2]), .own 44 3 (a2) (x.occ now (i + 1)).length ((x.occ now (i + 1)).flatMap lkC), .own 44 3 (.slice none 0 0) 0 [], .own 44 3 (.slice none 0 0) 0 [], .blk r #[(.slice none 0 0), (.slice none 0 0), (.slice none 0 0), (.slice none 0 0)] 41]) [none, some 10, none, some 7, some 8, none, none, none, none] [some 10, none, some 8, some 8, none, none, none, none, none] [(7, fun x => .slice (some ⟨x.1, 0, none⟩) 1 1), (8, fun x => x.2)] Try.mixed
    · (focus ((repeat (first | exact Restr.nil | (apply Restr.keep; exact rfl; exact rfl) | (apply Restr.drop; exact rfl))); done))
    · intro c; exact (by repeat constructor)
    · exact rfl
    · decide +kernel
    · decide +kernel
    · intro c
      (apply Par.quiet _ [true, false, true, false, false, true, true, true, true]; exact rfl; decide +kernel; exact rfl; intro R; refine ⟨_, (by repeat constructor), ?_⟩;
           (first | (apply EvW.fieldAddr0; exact rfl; exact FldC.eq)))
      (apply Par.quiet _ [true, false, true, false, false, true, true, true, true]; exact rfl; decide +kernel; exact rfl; intro R; refine ⟨_, (by repeat constructor), ?_⟩;
           (first | (apply EvW.load; exact rfl; exact ScalC.eq; (focus ((repeat constructor); done)); exact rfl)))
      (apply Par.quiet _ [true, false, true, false, false, true, true, true, true]; exact rfl; decide +kernel; exact rfl; intro R; refine ⟨_, (by repeat constructor), ?_⟩;
           (first | (apply EvW.move; exact rfl)))
      (apply Par.quiet _ [true, false, true, false, false, true, true, true, true]; exact rfl; decide +kernel; exact rfl; intro R; refine ⟨_, (by repeat constructor), ?_⟩;
           (first | (apply EvW.move; exact rfl)))
      (apply Par.quiet _ [true, false, true, false, false, true, true, true, true]; exact rfl; decide +kernel; exact rfl; intro R; refine ⟨_, (by repeat constructor), ?_⟩;
           (first | (apply EvW.move; exact rfl)))
      (apply Par.quiet _ [true, false, true, false, false, true, true, true, true]; exact rfl; decide +kernel; exact rfl; intro R; refine ⟨_, (by repeat constructor), ?_⟩;
           (first | (apply EvW.move; exact rfl)))
      apply Par.quiet _ [true, false, true, false, false, true, true, true, true]
      · exact rfl
      · decide +kernel
      · exact rfl
      · intro R
        refine ⟨_, (by repeat constructor), ?_⟩
        apply EvW.callK ([])
        · exact rfl
        · exact fun w => Try.call32 _ w
        · (focus ((repeat constructor); done))
        · exact fun w1 S1 hS1 hs1 ho1 => lookI_spec x now i i 0 _ selB L_pos w1 S1 hS1 (hx.down hs1) hw place2 hG.gb hL_pos
        · exact fun _ _ h => h
      (apply Par.new _ [false, false, false, false, false, false, false, false, false] [false, false, false, true, false, false, false, false, false] [true, false, true, false, false, true, true, true, true]; exact rfl; exact rfl; decide +kernel; intro R; refine ⟨_, _, _, (by repeat constructor), (by repeat constructor), (fun x => (by repeat constructor)), ?_⟩; (apply NewW.buildSlice; exact UndC.eq; exact SzC.eq; exact ZvC.eq; exact rfl; exact rfl; exact rfl; (focus ((repeat (first | exact Flat.nil | (apply Flat.one; (first | exact rfl | assumption)) | (apply Flat.cons; exact rfl; exact rfl))); done)); exact rfl; exact rfl; exact fun _ => rfl))
      apply Par.new _ [false, false, true, true, false, false, false, false, false] [false, false, false, false, true, false, false, false, false] [true, false, false, false, false, true, true, true, true]
      · exact rfl
      · exact rfl
      · decide +kernel
      · intro R
        refine ⟨_, _, _, (by repeat constructor), (by repeat constructor), (fun x => (by repeat constructor)), ?_⟩
        (apply NewW.append; exact rfl; exact rfl; exact UndC.eq; exact SzC.eq; exact ByC.eq; exact ZvC.eq; exact rfl; (first | exact notInt_sl UndC.eq | exact notInt_st UndC.eq); exact rfl; (focus ((repeat constructor); done)))
        · exact adds_blk (by repeat constructor) rfl rfl
        · (rw [hl_pos]; omega)
        · exact fun _ _ h => TakeT.st (by (focus ((repeat (first | exact TakeT.tail | apply TakeT.cons | exact Take.head | apply Take.tail | apply TakeT.drop)); done))) h
      (apply Par.quiet _ [true, false, false, false, true, true, true, true, true]; exact rfl; decide +kernel; exact rfl; intro R; refine ⟨_, (by repeat constructor), ?_⟩;
           (first | (apply EvW.fieldAddr0; exact rfl; exact FldC.eq)))
      apply Par.eff _ [true, false, false, false, false, false, false, false, false] [false, true, false, false, false, false, false, false, false] [false, false, false, false, true, true, true, true, true]
      · exact rfl
      · exact rfl
      · decide +kernel
      · intro R
        refine ⟨_, _, _, (by repeat constructor), (by repeat constructor), (by repeat constructor), ?_⟩
        (apply EffW.storeSl; exact rfl; exact rfl; (focus ((repeat constructor); done)); exact SzC.eq; (focus ((repeat constructor); done)))
      exact Par.nil
    · repeat (first | exact AllN.nil | (apply AllN.cons; (intro c x; (repeat (first | exact IndA.nil | (apply IndA.skip; decide +kernel) | apply IndA.same))))) 
    · repeat (first | exact AllN.nil | (apply AllN.cons; (intro c x; (repeat (first | exact IndT.nil | (apply IndT.skip; decide +kernel) | apply IndT.same))))) 
    · exact fun _ => rfl
    intro c
    refine ⟨_, (by repeat constructor), ?_⟩
    apply WE.writ
    · (focus ((repeat (first | exact Writ.nil | apply Writ.some | apply Writ.none)); done))
    generalize (c 7).1 = b7
    generalize (c 8).2 = b2
    rw [looks_snoc, looks_len, ← e_pos]
    repeat first
      | (apply WL.q; exact rfl; exact rfl; exact rfl; (first | (apply EvW.move; exact rfl) | (apply EvW.arN; exact rfl; exact rfl; exact rfl; refine i64_in ?_ ?_ <;> omega)))
      | refine WC.region ?_ | refine WL.nil ?_ | refine WE.next ?_ | refine WE.out ?_
    exact WE.again (s := (i, a, b)) ((i + 1, a2, b2)) (by simp only []; omega) (by (focus ((repeat (first | exact trivial | (refine ⟨rfl, ?_⟩))); done))) (fun _ h => (by (try simp only []); exact h.keep (by repeat constructor))) (by (try simp only []); omega)
  obtain rfl : i = x.c.secs.length := by omega
  repeat first
    | (apply WL.q; exact rfl; exact rfl; exact rfl; (first | (apply EvW.move; exact rfl) | (apply EvW.nilPtr; exact rfl) | (apply EvW.fieldAddr0; exact rfl; exact FldC.eq) | (apply EvW.ldSeen; exact rfl; exact ScalC.eq; assumption; (first | exact rfl | assumption)) | (apply EvW.cmpF; exact rfl; exact rfl; exact rfl; omega) | (apply EvW.lenRow; exact rfl; exact UndC.eq; assumption)))
    | refine WC.seq ?_ | refine WC.region ?_ | refine WL.nil ?_ | refine WE.next ?_ | refine WC.block ?_ | refine WC.exit ?_ | refine WE.pass ?_ | refine WE.hit ?_ | refine WC.condF rfl ?_
  refine WC.loopK (σ := Nat × Value) [0, 1, 4, 5, 45, 46] (fun s => [(47, i64 s.1)]) (fun s => [.own 44 3 (a) (x.occ now x.c.secs.length).length ((x.occ now x.c.secs.length).flatMap lkC), .own 44 3 (b) (x.pos now x.c.secs.length).length ((x.pos now x.c.secs.length).flatMap lkC), .own 44 3 (s.2) (x.shut now s.1).length ((x.shut now s.1).flatMap lkC), .own 44 3 (.slice none 0 0) 0 [], .blk q #[a, b, s.2, (.slice none 0 0)] 41, .blk r #[(.slice none 0 0), (.slice none 0 0), (.slice none 0 0), (.slice none 0 0)] 41]) (fun s => s.1 ≤ x.c.crs.length) (fun s => x.c.crs.length - s.1) (0, .slice none 0 0) (by (focus ((repeat (first | exact Pick.nil | (apply Pick.cons; exact rfl))); done))) (by (focus ((repeat (first | exact trivial | (refine ⟨rfl, ?_⟩))); done))) (fun _ h => h.keep (by repeat constructor)) (Nat.zero_le _) (fun s hs => ?_)
  obtain ⟨i, d⟩ := s
  simp only [List.cons_append, List.nil_append] at hs ⊢
  by_cases hlt2 : (i : Int) < x.c.crs.length
  · skip
    have hl_shut := x.shut_len now i
    have e_shut : x.shut now (i + 1) = x.shut now i ++ [x.lookV selY now (x.c.crs.getD i 0) i 0] := range_map _ i
    obtain ⟨L_shut, hL_shut⟩ : ∃ L, x.lookV selY now (x.c.crs.getD i 0) i 0 = L := ⟨_, rfl⟩
    rw [hL_shut] at e_shut
    repeat first
      | (apply WL.q; exact rfl; exact rfl; exact rfl; (first | (apply EvW.move; exact rfl) | (apply EvW.assign; exact rfl) | (apply EvW.cmpT; exact rfl; exact rfl; exact rfl; omega) | (apply EvW.idxRow; exact rfl; exact rfl; exact UndC.eq; exact SzC.eq; assumption; omega; omega) | (apply EvW.ldInt; exact rfl; exact ScalC.eq; assumption; omega)))
      | refine WC.seq ?_ | refine WC.region ?_ | refine WL.nil ?_ | refine WE.next ?_ | refine WC.block ?_ | refine WC.skip ?_ | refine WC.condT rfl ?_
    repeat refine WC.seq ?_
    refine WC.keep (xs := [.blk q #[a, b, d, (.slice none 0 0)] 41, .own 44 3 (d) (x.shut now i).length ((x.shut now i).flatMap lkC), .own 44 3 (a) (x.occ now x.c.secs.length).length ((x.occ now x.c.secs.length).flatMap lkC), .own 44 3 (b) (x.pos now x.c.secs.length).length ((x.pos now x.c.secs.length).flatMap lkC), .own 44 3 (.slice none 0 0) 0 [], .blk r #[(.slice none 0 0), (.slice none 0 0), (.slice none 0 0), (.slice none 0 0)] 41]) (by repeat constructor) ?_
    apply WC.par _ (fun c : Ch => [.blk q #[a, b, d, (.slice none 0 0)] 41, .blk q #[a, b, (c 8).2, (.slice none 0 0)] 41, .own 44 3 (d) (x.shut now i).length ((x.shut now i).flatMap lkC), .blk (c 7).1 #[i64 L_shut.1, i64 L_shut.2.1, .bool L_shut.2.2] 44, .own 44 3 ((c 8).2) ((x.shut now i).length + 1) ((x.shut now i).flatMap lkC ++ [i64 L_shut.1, i64 L_shut.2.1, .bool L_shut.2.2]), .own 44 3 (a) (x.occ now x.c.secs.length).length ((x.occ now x.c.secs.length).flatMap lkC), .own 44 3 (b) (x.pos now x.c.secs.length).length ((x.pos now x.c.secs.length).flatMap lkC), .own 44 3 (.slice none 0 0) 0 [], .blk r #[(.slice none 0 0), (.slice none 0 0), (.slice none 0 0), (.slice none 0 0)] 41]) [none, some 10, none, some 7, some 8, none, none, none, none] [some 10, none, some 8, some 8, none, none, none, none, none] [(7, fun x => .slice (some ⟨x.1, 0, none⟩) 1 1), (8, fun x => x.2)] Try.mixed
    · (focus ((repeat (first | exact Restr.nil | (apply Restr.keep; exact rfl; exact rfl) | (apply Restr.drop; exact rfl))); done))
    · intro c; exact (by repeat constructor)
    · exact rfl
    · decide +kernel
    · decide +kernel
    · intro c
      (apply Par.quiet _ [true, false, true, false, false, true, true, true, true]; exact rfl; decide +kernel; exact rfl; intro R; refine ⟨_, (by repeat constructor), ?_⟩;
           (first | (apply EvW.fieldAddr0; exact rfl; exact FldC.eq)))
      (apply Par.quiet _ [true, false, true, false, false, true, true, true, true]; exact rfl; decide +kernel; exact rfl; intro R; refine ⟨_, (by repeat constructor), ?_⟩;
           (first | (apply EvW.load; exact rfl; exact ScalC.eq; (focus ((repeat constructor); done)); exact rfl)))
      (apply Par.quiet _ [true, false, true, false, false, true, true, true, true]; exact rfl; decide +kernel; exact rfl; intro R; refine ⟨_, (by repeat constructor), ?_⟩;
           (first | (apply EvW.move; exact rfl)))
      (apply Par.quiet _ [true, false, true, false, false, true, true, true, true]; exact rfl; decide +kernel; exact rfl; intro R; refine ⟨_, (by repeat constructor), ?_⟩;
           (first | (apply EvW.move; exact rfl)))
      (apply Par.quiet _ [true, false, true, false, false, true, true, true, true]; exact rfl; decide +kernel; exact rfl; intro R; refine ⟨_, (by repeat constructor), ?_⟩;
           (first | (apply EvW.move; exact rfl)))
      (apply Par.quiet _ [true, false, true, false, false, true, true, true, true]; exact rfl; decide +kernel; exact rfl; intro R; refine ⟨_, (by repeat constructor), ?_⟩;
           (first | (apply EvW.move; exact rfl)))
      apply Par.quiet _ [true, false, true, false, false, true, true, true, true]
      · exact rfl
      · decide +kernel
      · exact rfl
      · intro R
        refine ⟨_, (by repeat constructor), ?_⟩
        apply EvW.callK ([])
        · exact rfl
        · exact fun w => Try.call32 _ w
        · (focus ((repeat constructor); done))
        · exact fun w1 S1 hS1 hs1 ho1 => lookI_spec x now (x.c.crs.getD i 0) i 0 _ selY L_shut w1 S1 hS1 (hx.down hs1) hw place3 hG.gy hL_shut
        · exact fun _ _ h => h
      (apply Par.new _ [false, false, false, false, false, false, false, false, false] [false, false, false, true, false, false, false, false, false] [true, false, true, false, false, true, true, true, true]; exact rfl; exact rfl; decide +kernel; intro R; refine ⟨_, _, _, (by repeat constructor), (by repeat constructor), (fun x => (by repeat constructor)), ?_⟩; (apply NewW.buildSlice; exact UndC.eq; exact SzC.eq; exact ZvC.eq; exact rfl; exact rfl; exact rfl; (focus ((repeat (first | exact Flat.nil | (apply Flat.one; (first | exact rfl | assumption)) | (apply Flat.cons; exact rfl; exact rfl))); done)); exact rfl; exact rfl; exact fun _ => rfl))
      apply Par.new _ [false, false, true, true, false, false, false, false, false] [false, false, false, false, true, false, false, false, false] [true, false, false, false, false, true, true, true, true]
      · exact rfl
      · exact rfl
      · decide +kernel
      · intro R
        refine ⟨_, _, _, (by repeat constructor), (by repeat constructor), (fun x => (by repeat constructor)), ?_⟩
        (apply NewW.append; exact rfl; exact rfl; exact UndC.eq; exact SzC.eq; exact ByC.eq; exact ZvC.eq; exact rfl; (first | exact notInt_sl UndC.eq | exact notInt_st UndC.eq); exact rfl; (focus ((repeat constructor); done)))
        · exact adds_blk (by repeat constructor) rfl rfl
        · (rw [hl_shut]; omega)
        · exact fun _ _ h => TakeT.st (by (focus ((repeat (first | exact TakeT.tail | apply TakeT.cons | exact Take.head | apply Take.tail | apply TakeT.drop)); done))) h
      (apply Par.quiet _ [true, false, false, false, true, true, true, true, true]; exact rfl; decide +kernel; exact rfl; intro R; refine ⟨_, (by repeat constructor), ?_⟩;
           (first | (apply EvW.fieldAddr0; exact rfl; exact FldC.eq)))
      apply Par.eff _ [true, false, false, false, false, false, false, false, false] [false, true, false, false, false, false, false, false, false] [false, false, false, false, true, true, true, true, true]
      · exact rfl
      · exact rfl
      · decide +kernel
      · intro R
        refine ⟨_, _, _, (by repeat constructor), (by repeat constructor), (by repeat constructor), ?_⟩
        (apply EffW.storeSl; exact rfl; exact rfl; (focus ((repeat constructor); done)); exact SzC.eq; (focus ((repeat constructor); done)))
      exact Par.nil
    · repeat (first | exact AllN.nil | (apply AllN.cons; (intro c x; (repeat (first | exact IndA.nil | (apply IndA.skip; decide +kernel) | apply IndA.same))))) 
    · repeat (first | exact AllN.nil | (apply AllN.cons; (intro c x; (repeat (first | exact IndT.nil | (apply IndT.skip; decide +kernel) | apply IndT.same))))) 
    · exact fun _ => rfl
    intro c
    refine ⟨_, (by repeat constructor), ?_⟩
    apply WE.writ
    · (focus ((repeat (first | exact Writ.nil | apply Writ.some | apply Writ.none)); done))
    generalize (c 7).1 = b7
    generalize (c 8).2 = d2
    rw [looks_snoc, looks_len, ← e_shut]
    repeat first
      | (apply WL.q; exact rfl; exact rfl; exact rfl; (first | (apply EvW.move; exact rfl) | (apply EvW.arN; exact rfl; exact rfl; exact rfl; refine i64_in ?_ ?_ <;> omega)))
      | refine WC.region ?_ | refine WL.nil ?_ | refine WE.next ?_ | refine WE.out ?_
    exact WE.again (s := (i, d)) ((i + 1, d2)) (by simp only []; omega) (by (focus ((repeat (first | exact trivial | (refine ⟨rfl, ?_⟩))); done))) (fun _ h => (by (try simp only []); exact h.keep (by repeat constructor))) (by (try simp only []); omega)
  obtain rfl : i = x.c.crs.length := by omega
  repeat first
    | (apply WL.q; exact rfl; exact rfl; exact rfl; (first | (apply EvW.move; exact rfl) | (apply EvW.nilPtr; exact rfl) | (apply EvW.fieldAddr0; exact rfl; exact FldC.eq) | (apply EvW.ldSeen; exact rfl; exact ScalC.eq; assumption; (first | exact rfl | assumption)) | (apply EvW.cmpF; exact rfl; exact rfl; exact rfl; omega) | (apply EvW.lenRow; exact rfl; exact UndC.eq; assumption)))
    | refine WC.seq ?_ | refine WC.region ?_ | refine WL.nil ?_ | refine WE.next ?_ | refine WC.block ?_ | refine WC.exit ?_ | refine WE.pass ?_ | refine WE.hit ?_ | refine WC.condF rfl ?_
  refine WC.loopK (σ := Nat × Value) [0, 1, 4, 5, 67, 68] (fun s => [(69, i64 s.1)]) (fun s => [.own 44 3 (a) (x.occ now x.c.secs.length).length ((x.occ now x.c.secs.length).flatMap lkC), .own 44 3 (b) (x.pos now x.c.secs.length).length ((x.pos now x.c.secs.length).flatMap lkC), .own 44 3 (d) (x.shut now x.c.crs.length).length ((x.shut now x.c.crs.length).flatMap lkC), .own 44 3 (s.2) (x.lamp now s.1).length ((x.lamp now s.1).flatMap lkC), .blk q #[a, b, d, s.2] 41, .blk r #[(.slice none 0 0), (.slice none 0 0), (.slice none 0 0), (.slice none 0 0)] 41]) (fun s => s.1 ≤ x.c.sigs.length) (fun s => x.c.sigs.length - s.1) (0, .slice none 0 0) (by (focus ((repeat (first | exact Pick.nil | (apply Pick.cons; exact rfl))); done))) (by (focus ((repeat (first | exact trivial | (refine ⟨rfl, ?_⟩))); done))) (fun _ h => h.keep (by repeat constructor)) (Nat.zero_le _) (fun s hs => ?_)
  obtain ⟨i, e⟩ := s
  simp only [List.cons_append, List.nil_append] at hs ⊢
  by_cases hlt3 : (i : Int) < x.c.sigs.length
  · skip
    have hl_lamp := x.lamp_len now i
    have e_lamp : x.lamp now (i + 1) = x.lamp now i ++ [x.lookV selD now (x.c.sigs.getD i default).s i 0] := range_map _ i
    obtain ⟨L_lamp, hL_lamp⟩ : ∃ L, x.lookV selD now (x.c.sigs.getD i default).s i 0 = L := ⟨_, rfl⟩
    rw [hL_lamp] at e_lamp
    repeat first
      | (apply WL.q; exact rfl; exact rfl; exact rfl; (first | (apply EvW.move; exact rfl) | (apply EvW.cmpT; exact rfl; exact rfl; exact rfl; omega) | (apply EvW.idxRow; exact rfl; exact rfl; exact UndC.eq; exact SzC.eq; assumption; omega; omega)))
      | refine WC.seq ?_ | refine WC.region ?_ | refine WL.nil ?_ | refine WE.next ?_ | refine WC.block ?_ | refine WC.skip ?_ | refine WC.condT rfl ?_
    (apply WL.q; exact rfl; exact rfl; exact rfl; (apply EvW.ldElem (xs := x.c.sigs) (z := (default : Sig)) (f := sigC); exact rfl; exact AggC.eq; exact SzC.eq; exact rfl; exact fun _ => rfl; assumption; omega))
    try refine WL.wanted rfl rfl rfl ?_
    (apply WL.alloc; exact rfl; exact ZvC.eq; exact rfl; intro z)
    rw [show ((i : Nat) : Int).toNat = i from rfl]
    generalize x.c.sigs.getD i default = g at hL_lamp
    repeat first
      | (apply WL.q; exact rfl; exact rfl; exact rfl; (first | (apply EvW.assign; exact rfl)))
      | refine WL.nil ?_ | refine WE.next ?_ | (apply WL.store; exact rfl; exact rfl; (first | assumption | exact rfl); exact SzC.eq; (first | assumption | exact rfl); (focus ((repeat constructor); done)))
    repeat refine WC.seq ?_
    refine WC.keep (xs := [.blk q #[a, b, d, e] 41, .own 44 3 (e) (x.lamp now i).length ((x.lamp now i).flatMap lkC), .own 44 3 (a) (x.occ now x.c.secs.length).length ((x.occ now x.c.secs.length).flatMap lkC), .own 44 3 (b) (x.pos now x.c.secs.length).length ((x.pos now x.c.secs.length).flatMap lkC), .own 44 3 (d) (x.shut now x.c.crs.length).length ((x.shut now x.c.crs.length).flatMap lkC), .blk r #[(.slice none 0 0), (.slice none 0 0), (.slice none 0 0), (.slice none 0 0)] 41, .blk z #[i64 g.s, i64 g.e] 70]) (by repeat constructor) ?_
    apply WC.par _ (fun c : Ch => [.blk q #[a, b, d, e] 41, .blk q #[a, b, d, (c 9).2] 41, .own 44 3 (e) (x.lamp now i).length ((x.lamp now i).flatMap lkC), .blk (c 8).1 #[i64 L_lamp.1, i64 L_lamp.2.1, .bool L_lamp.2.2] 44, .own 44 3 ((c 9).2) ((x.lamp now i).length + 1) ((x.lamp now i).flatMap lkC ++ [i64 L_lamp.1, i64 L_lamp.2.1, .bool L_lamp.2.2]), .own 44 3 (a) (x.occ now x.c.secs.length).length ((x.occ now x.c.secs.length).flatMap lkC), .own 44 3 (b) (x.pos now x.c.secs.length).length ((x.pos now x.c.secs.length).flatMap lkC), .own 44 3 (d) (x.shut now x.c.crs.length).length ((x.shut now x.c.crs.length).flatMap lkC), .blk r #[(.slice none 0 0), (.slice none 0 0), (.slice none 0 0), (.slice none 0 0)] 41, .blk z #[i64 g.s, i64 g.e] 70]) [none, some 11, none, some 8, some 9, none, none, none, none, none] [some 11, none, some 9, some 9, none, none, none, none, none, none] [(8, fun x => .slice (some ⟨x.1, 0, none⟩) 1 1), (9, fun x => x.2)] Try.mixed
    · (focus ((repeat (first | exact Restr.nil | (apply Restr.keep; exact rfl; exact rfl) | (apply Restr.drop; exact rfl))); done))
    · intro c; exact (by repeat constructor)
    · exact rfl
    · decide +kernel
    · decide +kernel
    · intro c
      (apply Par.quiet _ [true, false, true, false, false, true, true, true, true, true]; exact rfl; decide +kernel; exact rfl; intro R; refine ⟨_, (by repeat constructor), ?_⟩;
           (first | (apply EvW.fieldAddr0; exact rfl; exact FldC.eq)))
      (apply Par.quiet _ [true, false, true, false, false, true, true, true, true, true]; exact rfl; decide +kernel; exact rfl; intro R; refine ⟨_, (by repeat constructor), ?_⟩;
           (first | (apply EvW.load; exact rfl; exact ScalC.eq; (focus ((repeat constructor); done)); exact rfl)))
      (apply Par.quiet _ [true, false, true, false, false, true, true, true, true, true]; exact rfl; decide +kernel; exact rfl; intro R; refine ⟨_, (by repeat constructor), ?_⟩;
           (first | (apply EvW.move; exact rfl)))
      (apply Par.quiet _ [true, false, true, false, false, true, true, true, true, true]; exact rfl; decide +kernel; exact rfl; intro R; refine ⟨_, (by repeat constructor), ?_⟩;
           (first | (apply EvW.move; exact rfl)))
      (apply Par.quiet _ [true, false, true, false, false, true, true, true, true, true]; exact rfl; decide +kernel; exact rfl; intro R; refine ⟨_, (by repeat constructor), ?_⟩;
           (first | (apply EvW.fieldAddr0; exact rfl; exact FldC.eq)))
      (apply Par.quiet _ [true, false, true, false, false, true, true, true, true, true]; exact rfl; decide +kernel; exact rfl; intro R; refine ⟨_, (by repeat constructor), ?_⟩;
           (first | (apply EvW.load; exact rfl; exact ScalC.eq; (focus ((repeat constructor); done)); exact rfl)))
      (apply Par.quiet _ [true, false, true, false, false, true, true, true, true, true]; exact rfl; decide +kernel; exact rfl; intro R; refine ⟨_, (by repeat constructor), ?_⟩;
           (first | (apply EvW.move; exact rfl)))
      apply Par.quiet _ [true, false, true, false, false, true, true, true, true, true]
      · exact rfl
      · decide +kernel
      · exact rfl
      · intro R
        refine ⟨_, (by repeat constructor), ?_⟩
        apply EvW.callK ([])
        · exact rfl
        · exact fun w => Try.call32 _ w
        · (focus ((repeat constructor); done))
        · exact fun w1 S1 hS1 hs1 ho1 => lookI_spec x now g.s i 0 _ selD L_lamp w1 S1 hS1 (hx.down hs1) hw place4 hG.gd hL_lamp
        · exact fun _ _ h => h
      (apply Par.new _ [false, false, false, false, false, false, false, false, false, false] [false, false, false, true, false, false, false, false, false, false] [true, false, true, false, false, true, true, true, true, true]; exact rfl; exact rfl; decide +kernel; intro R; refine ⟨_, _, _, (by repeat constructor), (by repeat constructor), (fun x => (by repeat constructor)), ?_⟩; (apply NewW.buildSlice; exact UndC.eq; exact SzC.eq; exact ZvC.eq; exact rfl; exact rfl; exact rfl; (focus ((repeat (first | exact Flat.nil | (apply Flat.one; (first | exact rfl | assumption)) | (apply Flat.cons; exact rfl; exact rfl))); done)); exact rfl; exact rfl; exact fun _ => rfl))
      apply Par.new _ [false, false, true, true, false, false, false, false, false, false] [false, false, false, false, true, false, false, false, false, false] [true, false, false, false, false, true, true, true, true, true]
      · exact rfl
      · exact rfl
      · decide +kernel
      · intro R
        refine ⟨_, _, _, (by repeat constructor), (by repeat constructor), (fun x => (by repeat constructor)), ?_⟩
        (apply NewW.append; exact rfl; exact rfl; exact UndC.eq; exact SzC.eq; exact ByC.eq; exact ZvC.eq; exact rfl; (first | exact notInt_sl UndC.eq | exact notInt_st UndC.eq); exact rfl; (focus ((repeat constructor); done)))
        · exact adds_blk (by repeat constructor) rfl rfl
        · (rw [hl_lamp]; omega)
        · exact fun _ _ h => TakeT.st (by (focus ((repeat (first | exact TakeT.tail | apply TakeT.cons | exact Take.head | apply Take.tail | apply TakeT.drop)); done))) h
      (apply Par.quiet _ [true, false, false, false, true, true, true, true, true, true]; exact rfl; decide +kernel; exact rfl; intro R; refine ⟨_, (by repeat constructor), ?_⟩;
           (first | (apply EvW.fieldAddr0; exact rfl; exact FldC.eq)))
      apply Par.eff _ [true, false, false, false, false, false, false, false, false, false] [false, true, false, false, false, false, false, false, false, false] [false, false, false, false, true, true, true, true, true, true]
      · exact rfl
      · exact rfl
      · decide +kernel
      · intro R
        refine ⟨_, _, _, (by repeat constructor), (by repeat constructor), (by repeat constructor), ?_⟩
        (apply EffW.storeSl; exact rfl; exact rfl; (focus ((repeat constructor); done)); exact SzC.eq; (focus ((repeat constructor); done)))
      exact Par.nil
    · repeat (first | exact AllN.nil | (apply AllN.cons; (intro c x; (repeat (first | exact IndA.nil | (apply IndA.skip; decide +kernel) | apply IndA.same))))) 
    · repeat (first | exact AllN.nil | (apply AllN.cons; (intro c x; (repeat (first | exact IndT.nil | (apply IndT.skip; decide +kernel) | apply IndT.same))))) 
    · exact fun _ => rfl
    intro c
    refine ⟨_, (by repeat constructor), ?_⟩
    apply WE.writ
    · (focus ((repeat (first | exact Writ.nil | apply Writ.some | apply Writ.none)); done))
    generalize (c 8).1 = b8
    generalize (c 9).2 = e2
    rw [looks_snoc, looks_len, ← e_lamp]
    repeat first
      | (apply WL.q; exact rfl; exact rfl; exact rfl; (first | (apply EvW.move; exact rfl) | (apply EvW.arN; exact rfl; exact rfl; exact rfl; refine i64_in ?_ ?_ <;> omega)))
      | refine WC.region ?_ | refine WL.nil ?_ | refine WE.next ?_ | refine WE.out ?_
    exact WE.again (s := (i, e)) ((i + 1, e2)) (by simp only []; omega) (by (focus ((repeat (first | exact trivial | (refine ⟨rfl, ?_⟩))); done))) (fun _ h => (by (try simp only []); exact h.keep (by repeat constructor))) (by (try simp only []); omega)
  obtain rfl : i = x.c.sigs.length := by omega
  (first | refine WL.slOwn (v := a) (by repeat constructor) ?_ | refine WC.slOwn (v := a) (by repeat constructor) ?_)
  intro hc_a ho_a
  (first | refine WL.slOwn (v := b) (by repeat constructor) ?_ | refine WC.slOwn (v := b) (by repeat constructor) ?_)
  intro hc_b ho_b
  (first | refine WL.slOwn (v := d) (by repeat constructor) ?_ | refine WC.slOwn (v := d) (by repeat constructor) ?_)
  intro hc_d ho_d
  (first | refine WL.slOwn (v := e) (by repeat constructor) ?_ | refine WC.slOwn (v := e) (by repeat constructor) ?_)
  intro hc_e ho_e
  have hall : ([a, b, d, e] : List Value).all (·.oneCell') = true := by
    simp at ho_a ho_b ho_d ho_e
    simp [ho_a, ho_b, ho_d, ho_e]
  clear hc_a hc_b hc_d hc_e ho_a ho_b ho_d ho_e
  repeat first
    | (apply WL.q; exact rfl; exact rfl; exact rfl; (first | (apply EvW.cmpF; exact rfl; exact rfl; exact rfl; omega) | (apply EvW.loadAgg; exact rfl; exact AggC.eq; exact SzC.eq; (focus ((repeat constructor); done)); (focus ((repeat (first | exact SubL.nil | apply SubL.cons | apply SubL.succ)); done)))))
    | refine WC.seq ?_ | refine WC.region ?_ | refine WL.nil ?_ | refine WE.next ?_ | refine WC.exit ?_ | refine WE.pass ?_ | refine WE.hit ?_ | refine WC.condF rfl ?_ | refine WC.ret ?_ | (apply WL.store; exact rfl; exact rfl; (first | assumption | exact rfl); exact SzC.eq; (first | assumption | exact rfl); (focus ((repeat constructor); done)))
  (apply WE.retC (A' := [.own 44 3 (a) (x.occ now x.c.secs.length).length ((x.occ now x.c.secs.length).flatMap lkC), .own 44 3 (b) (x.pos now x.c.secs.length).length ((x.pos now x.c.secs.length).flatMap lkC), .own 44 3 (d) (x.shut now x.c.crs.length).length ((x.shut now x.c.crs.length).flatMap lkC), .own 44 3 (e) (x.lamp now x.c.sigs.length).length ((x.lamp now x.c.sigs.length).flatMap lkC)]); exact rfl; exact rfl; (focus ((repeat constructor); done)); exact AggC.eq; exact SzC.eq; exact fun _ h => h.keep (by repeat constructor))
  exact ⟨a, b, d, e, rfl, rfl⟩
end Go.Proofs.Ytamofjpadnnppaa
namespace Go.BK
open Go.RowKit
section
variable {P : Program} {w0 : World} {S0 : BSet} {n : Nat} {F : Fr} {A r : List HP} {ops : Array Oper} {rest : List Oper} {Q : Exit → Act → World → Prop} {L LR : List HP}
theorem St.pack {w : World} (h : TakeL L A r) (st : St w0 S0 A w) : St w0 S0 (sepL L :: r) w := st.mono fun _ _ hs => h.star hs
theorem St.unpack {w : World} (ht : Take (sepL L) A r) (hL : LR = L ++ r) (st : St w0 S0 A w) : St w0 S0 LR w := st.mono fun _ _ hs => by rw [hL]; exact sepL_append (ht.star hs)
theorem WL.pack (h : TakeL L A r) (kk : WL P w0 S0 n ops Q rest F (sepL L :: r)) : WL P w0 S0 n ops Q rest F A := kk.conv fun _ hs => hs.pack h
theorem WC.pack {c : Code} (h : TakeL L A r) (kk : WC P w0 S0 n c Q F (sepL L :: r)) : WC P w0 S0 n c Q F A := kk.conv fun _ hs => hs.pack h
theorem WE.pack {e : Exit} (h : TakeL L A r) (kk : WE w0 S0 n Q e F (sepL L :: r)) : WE w0 S0 n Q e F A := kk.conv fun _ hs => hs.pack h
theorem WL.unpack (ht : Take (sepL L) A r) (hL : LR = L ++ r) (kk : WL P w0 S0 n ops Q rest F LR) : WL P w0 S0 n ops Q rest F A := kk.conv fun _ hs => hs.unpack ht hL
theorem WC.unpack {c : Code} (ht : Take (sepL L) A r) (hL : LR = L ++ r) (kk : WC P w0 S0 n c Q F LR) : WC P w0 S0 n c Q F A := kk.conv fun _ hs => hs.unpack ht hL
theorem WE.unpack {e : Exit} (ht : Take (sepL L) A r) (hL : LR = L ++ r) (kk : WE w0 S0 n Q e F LR) : WE w0 S0 n Q e F A := kk.conv fun _ hs => hs.unpack ht hL
theorem St.noneL {w : World} (h : St w0 S0 A w) : St w0 S0 (sepL [] :: A) w :=
  h.mono fun S w hs => ⟨fun _ => False, S, fun b => by simp, fun b hb => hb.elim, fun _ h => h, hs⟩
theorem WC.noneL {c : Code} (kk : WC P w0 S0 n c Q F (sepL [] :: A)) : WC P w0 S0 n c Q F A := kk.conv fun _ hs => St.noneL hs
/-- A part of what is seen. -/
theorem Sees.part {w : World} {S : BSet} {B : HP} {L' : List HP} (h : Sees w S (sepL L)) (ht : Take B L L') : Sees w S B := by
  obtain ⟨R, h1, h2⟩ := h
  obtain ⟨S1, S2, hu, _, h3, _⟩ := ht.star h1
  exact ⟨S1, h3, fun b hb => h2 b ((hu b).2 (.inl hb))⟩
end
/-- The j-th of the values that a value holds; the block that it points to. -/
def cA (v : Value) (j : Nat) : Value := match v with
  | .agg cs => cs.toList.getD j default
  | _ => default
def pB (v : Value) : Nat := match v with
  | .pointer (some a) => a.block
  | _ => 0
theorem take_map_last {α : Type} (f : α → HP) (x : α) : ∀ l : List α, Take (f x) ((l ++ [x]).map f) (l.map f)
  | [] => .head
  | _ :: r => .tail (take_map_last f x r)
theorem take_map_at {α : Type} {f : α → HP} {l : List α} {d : α} {i : Nat} (h : i < l.length) : (l.map f)[i]? = some (f (l.getD i d)) := by
  rw [List.getElem?_map, List.getD_eq_getElem?_getD, List.getElem?_eq_getElem h]; rfl
theorem take_map_set {α : Type} {f : α → HP} {l : List α} {i : Nat} (x : α) (h : i < l.length) : Take (f x) ((l.set i x).map f) ((l.map f).eraseIdx i) := by
  rw [List.map_set]
  exact take_set _ (by rw [List.length_map]; exact h)
end Go.BK
namespace Go.BK
open Go.RowKit
section
variable {P : Program} {w0 : World} {S0 : BSet} {n : Nat} {F : Fr} {A A' r r' : List HP} {bl bl' : Nat} {T T' U U' : TypeId}
/-- A struct within a block that is only read. -/
theorem EvW.ldAggSeen {bl o m : Nat} {c out : List Value} {U t : TypeId} {x : Operand} {d : Option Tmp} {T : TypeId} {pos : String} {af : Array Edge} {g : Option (Nat × Bool)} (hx : ev F x = some (ptr bl o)) (hs : aggB P t = true) (hm : szB P t = some m) (hB : Sees w0 S0 (.blk bl c.toArray U)) (hc : SubL c o m out) : EvW P w0 S0 n F A ⟨d, .load t x, T, pos, af, g⟩ (.agg out.toArray) :=
  .pure fun a w ha hst => by
    obtain ⟨h1, h2⟩ := hc.eq
    obtain ⟨R, hR⟩ := hB.at hst
    have := runLoadAgg (P := P) hs hm hR.2 (o := o) (by simpa using h1)
    rw [h2] at this
    simp [execOp, ha.eval hx, this]
/-- A type of ints or of truths, and a value of it. -/
def flatT : Option TypeDesc → Bool
  | some (.int _) => true
  | some .bool => true
  | _ => false
def flatV : Option TypeDesc → Option Value → Bool
  | some (.int _), some (.int _ _) => true
  | some .bool, some (.bool _) => true
  | _, _ => false
theorem runPartF {w : World} {t : TypeId} {cs : Array Value} {off : Nat} {v : Value} (hu : flatT (P.underlying t) = true) (h : cs[off]? = some v) : (part t cs off).run P w = .ok v w := by
  revert hu
  cases hd : P.underlying t with
  | none => intro h; cases h
  | some d => cases d <;> intro hu <;> first | (simp [part, isAgg, run_underlying hd, h]; done) | cases hu
theorem runEqFlat {w : World} {t : TypeId} {v : Value} (d : Nat) (hu : flatV (P.underlying t) (some v) = true) : (Op.equalIn (d + 1) t v v).run P w = .ok true w := by
  revert hu
  cases hd : P.underlying t with
  | none => intro h; cases h
  | some e =>
    cases e <;> intro hu <;> first | (cases hu; done) | skip
    all_goals (cases v <;> first | (cases hu; done) | (simp [Op.equalIn, run_underlying hd]; done))
theorem flatV_T {o : Option TypeDesc} {v : Option Value} (h : flatV o v = true) : flatT o = true := by
  cases o with
  | none => cases h
  | some d => cases d <;> first | rfl | (cases v <;> cases h)
def isBoolT : Option TypeDesc → Bool
  | some .bool => true
  | _ => false
def mixV : Bool → Option Value → Bool
  | false, some (.int _ _) => true
  | true, some (.bool _) => true
  | _, _ => false
/-- A struct of ints and truths against itself: the fields' places, which are truths. -/
def mixB (P : Program) (t : TypeId) : Option (List (Nat × Bool)) := match P.underlying t with
  | some (.struct fs) => bif !P.stoodInHeld t && !P.eqGuardType P.depth t && fs.toList.all (fun f => f.name != "_" && flatT (P.underlying f.type)) then some (fs.toList.map fun f => (f.offset, isBoolT (P.underlying f.type))) else none
  | _ => none
theorem mix_flat {o : Option TypeDesc} {v : Option Value} (h : flatT o = true) (hv : mixV (isBoolT o) v = true) : flatV o v = true := by
  cases o with
  | none => cases h
  | some d =>
    cases d <;> first | (cases h; done) | skip
    all_goals (cases v with
      | none => cases hv
      | some v => cases v <;> first | rfl | cases hv)
theorem runEqMix {w : World} {t : TypeId} {fs : List Field} {l : List Value} (hu : P.underlying t = some (.struct fs.toArray)) (hst : P.stoodInHeld t = false) (hf : ∀ f ∈ fs, f.name ≠ "_" ∧ flatV (P.underlying f.type) l[f.offset]? = true) :
    (Op.equal t (.agg l.toArray) (.agg l.toArray)).run P w = .ok true w := by
  have key : ∀ d, (Op.equalIn (d + 2) t (.agg l.toArray) (.agg l.toArray)).run P w = .ok true w := fun d => by
    rw [Op.equalIn]
    simp only [Sem.run_bind, run_underlying hu, Result.andThen]
    have hp : Sem.run P program w = .ok P w := rfl
    simp only [hp, hst, Bool.false_eq_true, ↓reduceIte, List.forIn_toArray, Sem.run_bind]
    rw [runForYield]
    · rfl
    · intro f hf'
      obtain ⟨h1, h2⟩ := hf f hf'
      cases hv : l[f.offset]? with
      | none => rw [hv] at h2; revert h2; cases P.underlying f.type with
        | none => intro h; cases h
        | some d => cases d <;> intro h <;> cases h
      | some v =>
        rw [hv] at h2
        rw [if_pos h1]
        simp only [Sem.run_bind, runPartF (flatV_T h2) (show l.toArray[f.offset]? = some v by simpa using hv), Result.andThen, runEqFlat d h2]
        rfl
  exact key 9998
theorem mixB_get {t : TypeId} {ks : List (Nat × Bool)} {l : List Value} (hB : mixB P t = some ks) (hl : ks.all (fun k => mixV k.2 (getL l k.1)) = true) :
    P.eqGuardType P.depth t = false ∧ ∀ w, (Op.equal t (.agg l.toArray) (.agg l.toArray)).run P w = .ok true w := by
  unfold mixB at hB
  cases hu : P.underlying t with
  | none => simp [hu] at hB
  | some d =>
    cases d with
    | struct gs =>
      rw [hu] at hB
      dsimp only at hB
      cases hc : (!P.stoodInHeld t && !P.eqGuardType P.depth t && gs.toList.all (fun f => f.name != "_" && flatT (P.underlying f.type))) with
      | false => rw [hc] at hB; exact absurd hB (by simp)
      | true =>
        rw [hc, cond_true, Option.some.injEq] at hB
        subst hB
        rw [Bool.and_eq_true, Bool.and_eq_true] at hc
        obtain ⟨⟨h1, h2⟩, h3⟩ := hc
        refine ⟨by simpa using h2, fun w => runEqMix (fs := gs.toList) (by simpa using hu) (by simpa using h1) fun f hf => ?_⟩
        have h4 := List.all_eq_true.1 h3 f hf
        rw [Bool.and_eq_true] at h4
        have h5 := List.all_eq_true.1 hl _ (List.mem_map.2 ⟨f, hf, rfl⟩)
        rw [getL_eq] at h5
        exact ⟨by simpa using h4.1, mix_flat h4.2 h5⟩
    | _ => simp [hu] at hB
theorem EvW.eqMix {t ty : TypeId} {x y : Operand} {dd : Option Tmp} {T : TypeId} {pos : String} {af : Array Edge} {g : Option (Nat × Bool)} (ks : List (Nat × Bool)) {l : List Value} (hx : ev F x = some (.agg l.toArray)) (hy : ev F y = some (.agg l.toArray)) (hB : mixB P t = some ks) (hl : ks.all (fun k => mixV k.2 (getL l k.1)) = true) : EvW P w0 S0 n F A ⟨dd, .binOp .eql t x y ty, T, pos, af, g⟩ (.bool true) :=
  .pure fun a' w ha _ => by
    obtain ⟨h1, h2⟩ := mixB_get hB hl
    simp [execOp, ha.eval hx, ha.eval hy, eqGuard, h1, binOp, h2]
end
end Go.BK
namespace Go.Proofs.Ytamofjpadnnppaa
open Go.RowKit Go.BK
/-- The places up to n of which p holds. -/
def idx (p : Nat → Bool) (n : Nat) : List Int := ((List.range n).filter p).map fun i : Nat => (i : Int)
theorem idx_yes {p : Nat → Bool} {n : Nat} (h : p n = true) : idx p (n + 1) = idx p n ++ [(n : Int)] := by
  unfold idx
  rw [List.range_succ, List.filter_append, List.filter_cons_of_pos h, List.filter_nil, List.map_append]; rfl
theorem idx_no {p : Nat → Bool} {n : Nat} (h : p n = false) : idx p (n + 1) = idx p n := by
  unfold idx
  rw [List.range_succ, List.filter_append, List.filter_cons_of_neg (by simp [h]), List.filter_nil, List.append_nil]
theorem idx_le (p : Nat → Bool) (n : Nat) : (idx p n).length ≤ n := by
  unfold idx
  rw [List.length_map]
  have := List.length_filter_le p (List.range n)
  rwa [List.length_range] at this
def Cfg.pS (c : Cfg) (oc : Int) (i : Nat) : Bool := c.mine oc i
def Cfg.pP (c : Cfg) (oc : Int) (i : Nat) : Bool := c.mine oc i && decide ((c.secs.getD i default).k = 1)
def Cfg.pC (c : Cfg) (oc : Int) (i : Nat) : Bool := c.mine oc (c.crs.getD i 0)
def Cfg.pG (c : Cfg) (oc : Int) (i : Nat) : Bool := c.mine oc (c.sigs.getD i default).s
def Cfg.lS (c : Cfg) (oc : Int) : List Int := idx (c.pS oc) c.secs.length
def Cfg.lP (c : Cfg) (oc : Int) : List Int := idx (c.pP oc) c.secs.length
def Cfg.lC (c : Cfg) (oc : Int) : List Int := idx (c.pC oc) c.crs.length
def Cfg.lG (c : Cfg) (oc : Int) : List Int := idx (c.pG oc) c.sigs.length
theorem shape_spec (c : Cfg) (oc : Int) (w : World) (S : BSet) (hS : (sepL []).sat S w) (h : c.Seen w S) :
    Tri Try.prog 28 #[.agg (cfgC c).toArray, i64 oc] w S fun u A => ∃ a b d e, u = .agg #[a, b, d, e] ∧ A = [.own 3 1 (a) (c.lS oc).length ((c.lS oc).map i64), .own 3 1 (b) (c.lP oc).length ((c.lP oc).map i64), .own 3 1 (d) (c.lC oc).length ((c.lC oc).map i64), .own 3 1 (e) (c.lG oc).length ((c.lG oc).map i64)] := by
  refine Tri.enter (l := [.agg (cfgC c).toArray, i64 oc]) Try.func28 rfl Try.ntmps28 rfl [(0, .agg (cfgC c).toArray), (1, i64 oc)] (subA rfl) hS ?_
  have hsec := h.secs
  have hsig := h.sigs
  have hcrs := h.crs
  have hnS := h.nS
  have hnG := h.nG
  have hnC := h.nC
  repeat first
    | refine WC.seq ?_ | refine WC.region ?_
  try refine WL.wanted rfl rfl rfl ?_
  (apply WL.box; exact rfl; exact rfl; exact rfl; intro q1)
  skip
  try refine WL.wanted rfl rfl rfl ?_
  (apply WL.box; exact rfl; exact rfl; exact rfl; intro q2)
  skip
  try refine WL.wanted rfl rfl rfl ?_
  (apply WL.alloc; exact rfl; exact ZvC.eq; exact rfl; intro r)
  repeat first
    | (apply WL.q; exact rfl; exact rfl; exact rfl; (first | (apply EvW.assign; exact rfl) | (apply EvW.makeFunc; exact rfl)))
    | refine WC.seq ?_ | refine WC.region ?_ | refine WL.nil ?_ | refine WE.next ?_
  try refine WL.wanted rfl rfl rfl ?_
  (apply WL.alloc; exact rfl; exact ZvC.eq; exact rfl; intro hh)
  repeat first
    | (apply WL.q; exact rfl; exact rfl; exact rfl; (first | (apply EvW.move; exact rfl) | (apply EvW.fieldAddr0; exact rfl; exact FldC.eq) | (apply EvW.load; exact rfl; exact ScalC.eq; (focus ((repeat constructor); done)); exact rfl) | (apply EvW.lenRow; exact rfl; exact UndC.eq; assumption)))
    | refine WC.seq ?_ | refine WC.region ?_ | refine WL.nil ?_ | refine WE.next ?_ | refine WC.block ?_
  refine WC.ownNil 3 1 ?_
  refine WC.ownNil 3 1 ?_
  refine WC.ownNil 3 1 ?_
  refine WC.ownNil 3 1 ?_
  refine WC.loopK (σ := Nat × Value × Value) [2, 4, 5, 6, 15, 16] (fun s => [(17, i64 s.1)]) (fun s => [.own 3 1 (s.2.1) (idx (c.pS oc) s.1).length ((idx (c.pS oc) s.1).map i64), .own 3 1 (s.2.2) (idx (c.pP oc) s.1).length ((idx (c.pP oc) s.1).map i64), .own 3 1 (.slice none 0 0) 0 [], .own 3 1 (.slice none 0 0) 0 [], .blk hh #[s.2.1, s.2.2, .slice none 0 0, .slice none 0 0] 51, .blk r #[.slice none 0 0, .slice none 0 0, .slice none 0 0, .slice none 0 0] 51, .blk q2 [i64 oc].toArray 3, .blk q1 (cfgC c).toArray 30]) (fun s => s.1 ≤ c.secs.length) (fun s => c.secs.length - s.1) (0, .slice none 0 0, .slice none 0 0) (by (focus ((repeat (first | exact Pick.nil | (apply Pick.cons; exact rfl))); done))) (by (focus ((repeat (first | exact trivial | (refine ⟨rfl, ?_⟩))); done))) (fun _ h => h.keep (by repeat constructor)) (Nat.zero_le _) (fun s hs => ?_)
  obtain ⟨i, a, b⟩ := s
  simp only [List.cons_append, List.nil_append] at hs ⊢
  by_cases hlt : (i : Int) < c.secs.length
  · have hl1 := idx_le (c.pS oc) i
    have hl2 := idx_le (c.pP oc) i
    repeat first
      | (apply WL.q; exact rfl; exact rfl; exact rfl; (first | (apply EvW.move; exact rfl) | (apply EvW.cmpT; exact rfl; exact rfl; exact rfl; omega) | (apply EvW.idxRow; exact rfl; exact rfl; exact UndC.eq; exact SzC.eq; assumption; omega; omega)))
      | refine WC.seq ?_ | refine WC.region ?_ | refine WL.nil ?_ | refine WE.next ?_ | refine WC.block ?_ | refine WC.skip ?_ | refine WC.condT rfl ?_
    (apply WL.q; exact rfl; exact rfl; exact rfl; (apply EvW.ldElem (xs := c.secs) (z := (default : Sec)) (f := secC); exact rfl; exact AggC.eq; exact SzC.eq; exact rfl; exact fun _ => rfl; assumption; omega))
    try refine WL.wanted rfl rfl rfl ?_
    (apply WL.alloc; exact rfl; exact ZvC.eq; exact rfl; intro x)
    repeat first
      | (apply WL.q; exact rfl; exact rfl; exact rfl; (first | (apply EvW.move; exact rfl) | (apply EvW.assign; exact rfl)))
      | refine WC.seq ?_ | refine WC.region ?_ | refine WL.nil ?_ | refine WE.next ?_ | (apply WL.store; exact rfl; exact rfl; (first | assumption | exact rfl); exact SzC.eq; (first | assumption | exact rfl); (focus ((repeat constructor); done)))
    try refine WL.wanted rfl rfl rfl ?_
    apply WL.callV ([])
    · exact rfl
    · exact rfl
    · exact rfl
    · exact fun w => Try.call56 _ w
    · (focus ((repeat constructor); done))
    · exact fun w1 S1 hS1 hs1 ho1 => mine_spec c q1 q2 (i : Int) oc w1 S1 hS1 (h.down hs1) (ho1 _ _ (by repeat constructor)) (ho1 _ _ (by repeat constructor))
    rintro _ _ ⟨rfl, rfl⟩
    first | refine WL.app4 ?_ | refine WL.app3 ?_ | refine WL.app2 ?_ | refine WL.app1 ?_ | refine WL.app0 ?_ | skip
    by_cases hm : c.mine oc i = true
    · rw [hm]
      have e1 : idx (c.pS oc) (i + 1) = idx (c.pS oc) i ++ [(i : Int)] := idx_yes hm
      have hl3 := idx_le (c.pS oc) (i + 1)
      by_cases hk : (c.secs.getD ((i : Nat) : Int).toNat default).k = 1
      · have e2 : idx (c.pP oc) (i + 1) = idx (c.pP oc) i ++ [(i : Int)] := idx_yes (by unfold Cfg.pP; rw [hm, decide_eq_true (show (c.secs.getD i default).k = 1 from hk)]; rfl)
        repeat first
          | (apply WL.q; exact rfl; exact rfl; exact rfl; (first | (apply EvW.move; exact rfl) | (apply EvW.fieldAddr0; exact rfl; exact FldC.eq) | (apply EvW.load; exact rfl; exact ScalC.eq; (focus ((repeat constructor); done)); exact rfl)))
          | refine WC.seq ?_ | refine WC.region ?_ | refine WL.nil ?_ | refine WE.next ?_ | refine WC.condT rfl ?_
        try refine WL.wanted rfl rfl rfl ?_
        (apply WL.buildSlice; exact rfl; exact UndC.eq; exact SzC.eq; exact ZvC.eq; exact rfl; exact rfl; exact rfl; ((focus ((repeat (first | exact Flat.nil | (apply Flat.one; (first | exact rfl | assumption)) | (apply Flat.cons; exact rfl; exact rfl))); done))); exact rfl; exact rfl; intro c1)
        try refine WL.wanted rfl rfl rfl ?_
        (apply WL.append; exact rfl; exact rfl; exact rfl; exact UndC.eq; exact SzC.eq; exact ByC.eq; exact ZvC.eq; exact rfl; (first | exact notInt_sl UndC.eq | exact notInt_st UndC.eq); exact rfl; (focus ((repeat constructor); done)))
        · exact adds_blk .head rfl rfl
        · (omega)
        intro a2
        refine WL.ownEq (cs' := (idx (c.pS oc) (i + 1)).map i64) (len' := (idx (c.pS oc) (i + 1)).length) .head (by rw [e1]; simp) (by rw [e1]; simp) ?_
        (first | refine WL.slOwn (v := a2) (by repeat constructor) ?_ | refine WC.slOwn (v := a2) (by repeat constructor) ?_)
        intro hc_a2 ho_a2
        repeat first
          | (apply WL.q; exact rfl; exact rfl; exact rfl; (first | (apply EvW.move; exact rfl) | (apply EvW.fieldAddr0; exact rfl; exact FldC.eq) | (apply EvW.load; exact rfl; exact ScalC.eq; (focus ((repeat constructor); done)); exact rfl) | (apply EvW.cmpT; exact rfl; exact rfl; exact rfl; omega)))
          | refine WC.seq ?_ | refine WC.region ?_ | refine WL.nil ?_ | refine WE.next ?_ | refine WC.condT rfl ?_ | (apply WL.store; exact rfl; exact rfl; (first | assumption | exact rfl); exact SzC.eq; (first | assumption | exact rfl); (focus ((repeat constructor); done)))
        try refine WL.wanted rfl rfl rfl ?_
        (apply WL.buildSlice; exact rfl; exact UndC.eq; exact SzC.eq; exact ZvC.eq; exact rfl; exact rfl; exact rfl; ((focus ((repeat (first | exact Flat.nil | (apply Flat.one; (first | exact rfl | assumption)) | (apply Flat.cons; exact rfl; exact rfl))); done))); exact rfl; exact rfl; intro c2)
        try refine WL.wanted rfl rfl rfl ?_
        (apply WL.append; exact rfl; exact rfl; exact rfl; exact UndC.eq; exact SzC.eq; exact ByC.eq; exact ZvC.eq; exact rfl; (first | exact notInt_sl UndC.eq | exact notInt_st UndC.eq); exact rfl; (focus ((repeat constructor); done)))
        · exact adds_blk .head rfl rfl
        · (omega)
        intro b2
        refine WL.ownEq (cs' := (idx (c.pP oc) (i + 1)).map i64) (len' := (idx (c.pP oc) (i + 1)).length) .head (by rw [e2]; simp) (by rw [e2]; simp) ?_
        (first | refine WL.slOwn (v := b2) (by repeat constructor) ?_ | refine WC.slOwn (v := b2) (by repeat constructor) ?_)
        intro hc_b2 ho_b2
        repeat first
          | (apply WL.q; exact rfl; exact rfl; exact rfl; (first | (apply EvW.move; exact rfl) | (apply EvW.fieldAddr0; exact rfl; exact FldC.eq) | (apply EvW.arN; exact rfl; exact rfl; exact rfl; refine i64_in ?_ ?_ <;> omega)))
          | refine WC.region ?_ | refine WL.nil ?_ | refine WE.next ?_ | refine WE.out ?_ | (apply WL.store; exact rfl; exact rfl; (first | assumption | exact rfl); exact SzC.eq; (first | assumption | exact rfl); (focus ((repeat constructor); done)))
        exact WE.again (s := (i, a, b)) ((i + 1, a2, b2)) (by simp only []; omega) (by (focus ((repeat (first | exact trivial | (refine ⟨rfl, ?_⟩))); done))) (fun _ h => (by (try simp only []); exact h.keep (by repeat constructor))) (by (try simp only []); omega)
      · have e2 : idx (c.pP oc) (i + 1) = idx (c.pP oc) i := idx_no (by unfold Cfg.pP; rw [decide_eq_false (show ¬ (c.secs.getD i default).k = 1 from hk), Bool.and_false])
        repeat first
          | (apply WL.q; exact rfl; exact rfl; exact rfl; (first | (apply EvW.move; exact rfl) | (apply EvW.fieldAddr0; exact rfl; exact FldC.eq) | (apply EvW.load; exact rfl; exact ScalC.eq; (focus ((repeat constructor); done)); exact rfl)))
          | refine WC.seq ?_ | refine WC.region ?_ | refine WL.nil ?_ | refine WE.next ?_ | refine WC.condT rfl ?_
        try refine WL.wanted rfl rfl rfl ?_
        (apply WL.buildSlice; exact rfl; exact UndC.eq; exact SzC.eq; exact ZvC.eq; exact rfl; exact rfl; exact rfl; ((focus ((repeat (first | exact Flat.nil | (apply Flat.one; (first | exact rfl | assumption)) | (apply Flat.cons; exact rfl; exact rfl))); done))); exact rfl; exact rfl; intro c1)
        try refine WL.wanted rfl rfl rfl ?_
        (apply WL.append; exact rfl; exact rfl; exact rfl; exact UndC.eq; exact SzC.eq; exact ByC.eq; exact ZvC.eq; exact rfl; (first | exact notInt_sl UndC.eq | exact notInt_st UndC.eq); exact rfl; (focus ((repeat constructor); done)))
        · exact adds_blk .head rfl rfl
        · (omega)
        intro a2
        refine WL.ownEq (cs' := (idx (c.pS oc) (i + 1)).map i64) (len' := (idx (c.pS oc) (i + 1)).length) .head (by rw [e1]; simp) (by rw [e1]; simp) ?_
        (first | refine WL.slOwn (v := a2) (by repeat constructor) ?_ | refine WC.slOwn (v := a2) (by repeat constructor) ?_)
        intro hc_a2 ho_a2
        repeat first
          | (apply WL.q; exact rfl; exact rfl; exact rfl; (first | (apply EvW.move; exact rfl) | (apply EvW.fieldAddr0; exact rfl; exact FldC.eq) | (apply EvW.load; exact rfl; exact ScalC.eq; (focus ((repeat constructor); done)); exact rfl) | (apply EvW.cmpF; exact rfl; exact rfl; exact rfl; omega) | (apply EvW.arN; exact rfl; exact rfl; exact rfl; refine i64_in ?_ ?_ <;> omega)))
          | refine WC.seq ?_ | refine WC.region ?_ | refine WL.nil ?_ | refine WE.next ?_ | refine WC.skip ?_ | refine WE.out ?_ | refine WC.condF rfl ?_ | (apply WL.store; exact rfl; exact rfl; (first | assumption | exact rfl); exact SzC.eq; (first | assumption | exact rfl); (focus ((repeat constructor); done)))
        exact WE.again (s := (i, a, b)) ((i + 1, a2, b)) (by simp only []; omega) (by (focus ((repeat (first | exact trivial | (refine ⟨rfl, ?_⟩))); done))) (fun _ h => (by (try simp only []); rw [e2]; exact h.keep (by repeat constructor))) (by (try simp only []); omega)
    · have hm : c.mine oc i = false := by simpa using hm
      rw [hm]
      have e1 : idx (c.pS oc) (i + 1) = idx (c.pS oc) i := idx_no hm
      have e2 : idx (c.pP oc) (i + 1) = idx (c.pP oc) i := idx_no (by unfold Cfg.pP; rw [hm, Bool.false_and])
      repeat first
        | (apply WL.q; exact rfl; exact rfl; exact rfl; (first | (apply EvW.move; exact rfl) | (apply EvW.arN; exact rfl; exact rfl; exact rfl; refine i64_in ?_ ?_ <;> omega)))
        | refine WC.region ?_ | refine WL.nil ?_ | refine WE.next ?_ | refine WC.skip ?_ | refine WE.out ?_ | refine WC.condF rfl ?_
      exact WE.again (s := (i, a, b)) ((i + 1, a, b)) (by simp only []; omega) (by (focus ((repeat (first | exact trivial | (refine ⟨rfl, ?_⟩))); done))) (fun _ h => (by (try simp only []); rw [e1, e2]; exact h.keep (by repeat constructor))) (by (try simp only []); omega)
  obtain rfl : i = c.secs.length := by omega
  rw [show idx (c.pS oc) c.secs.length = c.lS oc from rfl, show idx (c.pP oc) c.secs.length = c.lP oc from rfl]
  repeat first
    | (apply WL.q; exact rfl; exact rfl; exact rfl; (first | (apply EvW.move; exact rfl) | (apply EvW.fieldAddr0; exact rfl; exact FldC.eq) | (apply EvW.load; exact rfl; exact ScalC.eq; (focus ((repeat constructor); done)); exact rfl) | (apply EvW.cmpF; exact rfl; exact rfl; exact rfl; omega) | (apply EvW.lenRow; exact rfl; exact UndC.eq; assumption)))
    | refine WC.seq ?_ | refine WC.region ?_ | refine WL.nil ?_ | refine WE.next ?_ | refine WC.block ?_ | refine WC.exit ?_ | refine WE.pass ?_ | refine WE.hit ?_ | refine WC.condF rfl ?_
  refine WC.loopK (σ := Nat × Value) [2, 4, 5, 6, 42, 43] (fun s => [(44, i64 s.1)]) (fun s => [.own 3 1 (s.2) (idx (c.pC oc) s.1).length ((idx (c.pC oc) s.1).map i64), .own 3 1 (a) (c.lS oc).length ((c.lS oc).map i64), .own 3 1 (b) (c.lP oc).length ((c.lP oc).map i64), .own 3 1 (.slice none 0 0) 0 [], .blk hh #[a, b, s.2, .slice none 0 0] 51, .blk r #[.slice none 0 0, .slice none 0 0, .slice none 0 0, .slice none 0 0] 51, .blk q2 [i64 oc].toArray 3, .blk q1 (cfgC c).toArray 30]) (fun s => s.1 ≤ c.crs.length) (fun s => c.crs.length - s.1) (0, .slice none 0 0) (by (focus ((repeat (first | exact Pick.nil | (apply Pick.cons; exact rfl))); done))) (by (focus ((repeat (first | exact trivial | (refine ⟨rfl, ?_⟩))); done))) (fun _ h => h.keep (by repeat constructor)) (Nat.zero_le _) (fun s hs => ?_)
  obtain ⟨i, d⟩ := s
  simp only [List.cons_append, List.nil_append] at hs ⊢
  by_cases hlt2 : (i : Int) < c.crs.length
  · have hl1 := idx_le (c.pC oc) i
    have hl3 := idx_le (c.pC oc) (i + 1)
    repeat first
      | (apply WL.q; exact rfl; exact rfl; exact rfl; (first | (apply EvW.move; exact rfl) | (apply EvW.assign; exact rfl) | (apply EvW.cmpT; exact rfl; exact rfl; exact rfl; omega) | (apply EvW.idxRow; exact rfl; exact rfl; exact UndC.eq; exact SzC.eq; assumption; omega; omega) | (apply EvW.ldInt; exact rfl; exact ScalC.eq; assumption; omega)))
      | refine WC.seq ?_ | refine WC.region ?_ | refine WL.nil ?_ | refine WE.next ?_ | refine WC.block ?_ | refine WC.skip ?_ | refine WC.condT rfl ?_
    try refine WL.wanted rfl rfl rfl ?_
    apply WL.callV ([])
    · exact rfl
    · exact rfl
    · exact rfl
    · exact fun w => Try.call56 _ w
    · (focus ((repeat constructor); done))
    · exact fun w1 S1 hS1 hs1 ho1 => mine_spec c q1 q2 (c.crs.getD ((i : Nat) : Int).toNat 0) oc w1 S1 hS1 (h.down hs1) (ho1 _ _ (by repeat constructor)) (ho1 _ _ (by repeat constructor))
    rintro _ _ ⟨rfl, rfl⟩
    first | refine WL.app4 ?_ | refine WL.app3 ?_ | refine WL.app2 ?_ | refine WL.app1 ?_ | refine WL.app0 ?_ | skip
    by_cases hm : c.mine oc (c.crs.getD ((i : Nat) : Int).toNat 0) = true
    · rw [hm]
      have e1 : idx (c.pC oc) (i + 1) = idx (c.pC oc) i ++ [(i : Int)] := idx_yes hm
      repeat first
        | (apply WL.q; exact rfl; exact rfl; exact rfl; (first | (apply EvW.move; exact rfl) | (apply EvW.fieldAddr0; exact rfl; exact FldC.eq) | (apply EvW.load; exact rfl; exact ScalC.eq; (focus ((repeat constructor); done)); exact rfl)))
        | refine WC.region ?_ | refine WL.nil ?_ | refine WE.next ?_ | refine WC.condT rfl ?_
      try refine WL.wanted rfl rfl rfl ?_
      (apply WL.buildSlice; exact rfl; exact UndC.eq; exact SzC.eq; exact ZvC.eq; exact rfl; exact rfl; exact rfl; ((focus ((repeat (first | exact Flat.nil | (apply Flat.one; (first | exact rfl | assumption)) | (apply Flat.cons; exact rfl; exact rfl))); done))); exact rfl; exact rfl; intro c1)
      try refine WL.wanted rfl rfl rfl ?_
      (apply WL.append; exact rfl; exact rfl; exact rfl; exact UndC.eq; exact SzC.eq; exact ByC.eq; exact ZvC.eq; exact rfl; (first | exact notInt_sl UndC.eq | exact notInt_st UndC.eq); exact rfl; (focus ((repeat constructor); done)))
      · exact adds_blk .head rfl rfl
      · (omega)
      intro d2
      refine WL.ownEq (cs' := (idx (c.pC oc) (i + 1)).map i64) (len' := (idx (c.pC oc) (i + 1)).length) .head (by rw [e1]; simp) (by rw [e1]; simp) ?_
      (first | refine WL.slOwn (v := d2) (by repeat constructor) ?_ | refine WC.slOwn (v := d2) (by repeat constructor) ?_)
      intro hc_d2 ho_d2
      repeat first
        | (apply WL.q; exact rfl; exact rfl; exact rfl; (first | (apply EvW.move; exact rfl) | (apply EvW.fieldAddr0; exact rfl; exact FldC.eq) | (apply EvW.arN; exact rfl; exact rfl; exact rfl; refine i64_in ?_ ?_ <;> omega)))
        | refine WC.region ?_ | refine WL.nil ?_ | refine WE.next ?_ | refine WE.out ?_ | (apply WL.store; exact rfl; exact rfl; (first | assumption | exact rfl); exact SzC.eq; (first | assumption | exact rfl); (focus ((repeat constructor); done)))
      exact WE.again (s := (i, d)) ((i + 1, d2)) (by simp only []; omega) (by (focus ((repeat (first | exact trivial | (refine ⟨rfl, ?_⟩))); done))) (fun _ h => (by (try simp only []); exact h.keep (by repeat constructor))) (by (try simp only []); omega)
    · have hm : c.mine oc (c.crs.getD ((i : Nat) : Int).toNat 0) = false := by simpa using hm
      rw [hm]
      have e1 : idx (c.pC oc) (i + 1) = idx (c.pC oc) i := idx_no hm
      repeat first
        | (apply WL.q; exact rfl; exact rfl; exact rfl; (first | (apply EvW.move; exact rfl) | (apply EvW.arN; exact rfl; exact rfl; exact rfl; refine i64_in ?_ ?_ <;> omega)))
        | refine WC.region ?_ | refine WL.nil ?_ | refine WE.next ?_ | refine WC.skip ?_ | refine WE.out ?_ | refine WC.condF rfl ?_
      exact WE.again (s := (i, d)) ((i + 1, d)) (by simp only []; omega) (by (focus ((repeat (first | exact trivial | (refine ⟨rfl, ?_⟩))); done))) (fun _ h => (by (try simp only []); rw [e1]; exact h.keep (by repeat constructor))) (by (try simp only []); omega)
  obtain rfl : i = c.crs.length := by omega
  rw [show idx (c.pC oc) c.crs.length = c.lC oc from rfl]
  repeat first
    | (apply WL.q; exact rfl; exact rfl; exact rfl; (first | (apply EvW.move; exact rfl) | (apply EvW.fieldAddr0; exact rfl; exact FldC.eq) | (apply EvW.load; exact rfl; exact ScalC.eq; (focus ((repeat constructor); done)); exact rfl) | (apply EvW.cmpF; exact rfl; exact rfl; exact rfl; omega) | (apply EvW.lenRow; exact rfl; exact UndC.eq; assumption)))
    | refine WC.seq ?_ | refine WC.region ?_ | refine WL.nil ?_ | refine WE.next ?_ | refine WC.block ?_ | refine WC.exit ?_ | refine WE.pass ?_ | refine WE.hit ?_ | refine WC.condF rfl ?_
  refine WC.loopK (σ := Nat × Value) [4, 5, 6, 60, 61] (fun s => [(62, i64 s.1)]) (fun s => [.own 3 1 (s.2) (idx (c.pG oc) s.1).length ((idx (c.pG oc) s.1).map i64), .own 3 1 (a) (c.lS oc).length ((c.lS oc).map i64), .own 3 1 (b) (c.lP oc).length ((c.lP oc).map i64), .own 3 1 (d) (c.lC oc).length ((c.lC oc).map i64), .blk hh #[a, b, d, s.2] 51, .blk r #[.slice none 0 0, .slice none 0 0, .slice none 0 0, .slice none 0 0] 51, .blk q2 [i64 oc].toArray 3, .blk q1 (cfgC c).toArray 30]) (fun s => s.1 ≤ c.sigs.length) (fun s => c.sigs.length - s.1) (0, .slice none 0 0) (by (focus ((repeat (first | exact Pick.nil | (apply Pick.cons; exact rfl))); done))) (by (focus ((repeat (first | exact trivial | (refine ⟨rfl, ?_⟩))); done))) (fun _ h => h.keep (by repeat constructor)) (Nat.zero_le _) (fun s hs => ?_)
  obtain ⟨i, e⟩ := s
  simp only [List.cons_append, List.nil_append] at hs ⊢
  by_cases hlt3 : (i : Int) < c.sigs.length
  · have hl1 := idx_le (c.pG oc) i
    have hl3 := idx_le (c.pG oc) (i + 1)
    repeat first
      | (apply WL.q; exact rfl; exact rfl; exact rfl; (first | (apply EvW.move; exact rfl) | (apply EvW.cmpT; exact rfl; exact rfl; exact rfl; omega) | (apply EvW.idxRow; exact rfl; exact rfl; exact UndC.eq; exact SzC.eq; assumption; omega; omega)))
      | refine WC.seq ?_ | refine WC.region ?_ | refine WL.nil ?_ | refine WE.next ?_ | refine WC.block ?_ | refine WC.skip ?_ | refine WC.condT rfl ?_
    (apply WL.q; exact rfl; exact rfl; exact rfl; (apply EvW.ldElem (xs := c.sigs) (z := (default : Sig)) (f := sigC); exact rfl; exact AggC.eq; exact SzC.eq; exact rfl; exact fun _ => rfl; assumption; omega))
    try refine WL.wanted rfl rfl rfl ?_
    (apply WL.alloc; exact rfl; exact ZvC.eq; exact rfl; intro x)
    repeat first
      | (apply WL.q; exact rfl; exact rfl; exact rfl; (first | (apply EvW.move; exact rfl) | (apply EvW.assign; exact rfl) | (apply EvW.fieldAddr0; exact rfl; exact FldC.eq) | (apply EvW.load; exact rfl; exact ScalC.eq; (focus ((repeat constructor); done)); exact rfl)))
      | refine WC.seq ?_ | refine WC.region ?_ | refine WL.nil ?_ | refine WE.next ?_ | (apply WL.store; exact rfl; exact rfl; (first | assumption | exact rfl); exact SzC.eq; (first | assumption | exact rfl); (focus ((repeat constructor); done)))
    try refine WL.wanted rfl rfl rfl ?_
    apply WL.callV ([])
    · exact rfl
    · exact rfl
    · exact rfl
    · exact fun w => Try.call56 _ w
    · (focus ((repeat constructor); done))
    · exact fun w1 S1 hS1 hs1 ho1 => mine_spec c q1 q2 ((c.sigs.getD ((i : Nat) : Int).toNat default).s) oc w1 S1 hS1 (h.down hs1) (ho1 _ _ (by repeat constructor)) (ho1 _ _ (by repeat constructor))
    rintro _ _ ⟨rfl, rfl⟩
    first | refine WL.app4 ?_ | refine WL.app3 ?_ | refine WL.app2 ?_ | refine WL.app1 ?_ | refine WL.app0 ?_ | skip
    by_cases hm : c.mine oc (c.sigs.getD ((i : Nat) : Int).toNat default).s = true
    · rw [hm]
      have e1 : idx (c.pG oc) (i + 1) = idx (c.pG oc) i ++ [(i : Int)] := idx_yes hm
      repeat first
        | (apply WL.q; exact rfl; exact rfl; exact rfl; (first | (apply EvW.move; exact rfl) | (apply EvW.fieldAddr0; exact rfl; exact FldC.eq) | (apply EvW.load; exact rfl; exact ScalC.eq; (focus ((repeat constructor); done)); exact rfl)))
        | refine WC.region ?_ | refine WL.nil ?_ | refine WE.next ?_ | refine WC.condT rfl ?_
      try refine WL.wanted rfl rfl rfl ?_
      (apply WL.buildSlice; exact rfl; exact UndC.eq; exact SzC.eq; exact ZvC.eq; exact rfl; exact rfl; exact rfl; ((focus ((repeat (first | exact Flat.nil | (apply Flat.one; (first | exact rfl | assumption)) | (apply Flat.cons; exact rfl; exact rfl))); done))); exact rfl; exact rfl; intro c1)
      try refine WL.wanted rfl rfl rfl ?_
      (apply WL.append; exact rfl; exact rfl; exact rfl; exact UndC.eq; exact SzC.eq; exact ByC.eq; exact ZvC.eq; exact rfl; (first | exact notInt_sl UndC.eq | exact notInt_st UndC.eq); exact rfl; (focus ((repeat constructor); done)))
      · exact adds_blk .head rfl rfl
      · (omega)
      intro e2
      refine WL.ownEq (cs' := (idx (c.pG oc) (i + 1)).map i64) (len' := (idx (c.pG oc) (i + 1)).length) .head (by rw [e1]; simp) (by rw [e1]; simp) ?_
      (first | refine WL.slOwn (v := e2) (by repeat constructor) ?_ | refine WC.slOwn (v := e2) (by repeat constructor) ?_)
      intro hc_e2 ho_e2
      repeat first
        | (apply WL.q; exact rfl; exact rfl; exact rfl; (first | (apply EvW.move; exact rfl) | (apply EvW.fieldAddr0; exact rfl; exact FldC.eq) | (apply EvW.arN; exact rfl; exact rfl; exact rfl; refine i64_in ?_ ?_ <;> omega)))
        | refine WC.region ?_ | refine WL.nil ?_ | refine WE.next ?_ | refine WE.out ?_ | (apply WL.store; exact rfl; exact rfl; (first | assumption | exact rfl); exact SzC.eq; (first | assumption | exact rfl); (focus ((repeat constructor); done)))
      exact WE.again (s := (i, e)) ((i + 1, e2)) (by simp only []; omega) (by (focus ((repeat (first | exact trivial | (refine ⟨rfl, ?_⟩))); done))) (fun _ h => (by (try simp only []); exact h.keep (by repeat constructor))) (by (try simp only []); omega)
    · have hm : c.mine oc (c.sigs.getD ((i : Nat) : Int).toNat default).s = false := by simpa using hm
      rw [hm]
      have e1 : idx (c.pG oc) (i + 1) = idx (c.pG oc) i := idx_no hm
      repeat first
        | (apply WL.q; exact rfl; exact rfl; exact rfl; (first | (apply EvW.move; exact rfl) | (apply EvW.arN; exact rfl; exact rfl; exact rfl; refine i64_in ?_ ?_ <;> omega)))
        | refine WC.region ?_ | refine WL.nil ?_ | refine WE.next ?_ | refine WC.skip ?_ | refine WE.out ?_ | refine WC.condF rfl ?_
      exact WE.again (s := (i, e)) ((i + 1, e)) (by simp only []; omega) (by (focus ((repeat (first | exact trivial | (refine ⟨rfl, ?_⟩))); done))) (fun _ h => (by (try simp only []); rw [e1]; exact h.keep (by repeat constructor))) (by (try simp only []); omega)
  obtain rfl : i = c.sigs.length := by omega
  rw [show idx (c.pG oc) c.sigs.length = c.lG oc from rfl]
  (first | refine WL.slOwn (v := a) (by repeat constructor) ?_ | refine WC.slOwn (v := a) (by repeat constructor) ?_)
  intro hc_a ho_a
  (first | refine WL.slOwn (v := b) (by repeat constructor) ?_ | refine WC.slOwn (v := b) (by repeat constructor) ?_)
  intro hc_b ho_b
  (first | refine WL.slOwn (v := d) (by repeat constructor) ?_ | refine WC.slOwn (v := d) (by repeat constructor) ?_)
  intro hc_d ho_d
  (first | refine WL.slOwn (v := e) (by repeat constructor) ?_ | refine WC.slOwn (v := e) (by repeat constructor) ?_)
  intro hc_e ho_e
  have hall : ([a, b, d, e] : List Value).all (·.oneCell') = true := by
    simp at ho_a ho_b ho_d ho_e
    simp [ho_a, ho_b, ho_d, ho_e]
  clear hc_a hc_b hc_d hc_e ho_a ho_b ho_d ho_e
  repeat first
    | (apply WL.q; exact rfl; exact rfl; exact rfl; (first | (apply EvW.cmpF; exact rfl; exact rfl; exact rfl; omega) | (apply EvW.loadAgg; exact rfl; exact AggC.eq; exact SzC.eq; (focus ((repeat constructor); done)); (focus ((repeat (first | exact SubL.nil | apply SubL.cons | apply SubL.succ)); done)))))
    | refine WC.seq ?_ | refine WC.region ?_ | refine WL.nil ?_ | refine WE.next ?_ | refine WC.exit ?_ | refine WE.pass ?_ | refine WE.hit ?_ | refine WC.condF rfl ?_ | refine WC.ret ?_ | (apply WL.store; exact rfl; exact rfl; (first | assumption | exact rfl); exact SzC.eq; (first | assumption | exact rfl); (focus ((repeat constructor); done)))
  (apply WE.retC (A' := [.own 3 1 (a) (c.lS oc).length ((c.lS oc).map i64), .own 3 1 (b) (c.lP oc).length ((c.lP oc).map i64), .own 3 1 (d) (c.lC oc).length ((c.lC oc).map i64), .own 3 1 (e) (c.lG oc).length ((c.lG oc).map i64)]); exact rfl; exact rfl; (focus ((repeat constructor); done)); exact AggC.eq; exact SzC.eq; exact fun _ h => h.keep (by repeat constructor))
  exact ⟨a, b, d, e, rfl, rfl⟩
end Go.Proofs.Ytamofjpadnnppaa
namespace Go.Proofs.Ytamofjpadnnppaa
open Go.RowKit Go.BK
theorem of_spec (c : Cfg) (s oc : Int) (w : World) (S : BSet) (hS : (sepL []).sat S w) (h : c.Seen w S) :
    Tri Try.prog 39 #[.agg (cfgC c).toArray, i64 s, i64 oc] w S fun u A => u = .bool (c.mine oc s) ∧ A = [] := by
  refine Tri.enter (l := [.agg (cfgC c).toArray, i64 s, i64 oc]) Try.func39 rfl Try.ntmps39 rfl [(0, .agg (cfgC c).toArray), (1, i64 s), (2, i64 oc)] (subA rfl) hS ?_
  have hsec := h.secs
  have hm : c.mine oc s = (decide (0 ≤ s) && decide (s < c.secs.length) && decide ((c.secs.getD s.toNat default).oc = oc)) := rfl
  rw [hm]
  by_cases h0 : 0 ≤ s
  · by_cases hl : s < c.secs.length
    · rw [decide_eq_true h0, decide_eq_true hl, Bool.true_and, Bool.true_and]
      repeat first
        | refine WC.seq ?_ | refine WC.region ?_
      try refine WL.wanted rfl rfl rfl ?_
      (apply WL.box; exact rfl; exact rfl; exact rfl; intro q)
      repeat first
        | (apply WL.q; exact rfl; exact rfl; exact rfl; (first | (apply EvW.move; exact rfl) | (apply EvW.assign; exact rfl) | (apply EvW.fieldAddr0; exact rfl; exact FldC.eq) | (apply EvW.load; exact rfl; exact ScalC.eq; (focus ((repeat constructor); done)); exact rfl) | (apply EvW.ldFld; exact rfl; exact ScalC.eq; assumption; exact fun _ => rfl; omega; exact rfl; exact inferInstance) | (apply EvW.cmpT; exact rfl; exact rfl; exact rfl; omega) | (apply EvW.cmp; exact rfl; exact rfl; exact rfl) | (apply EvW.pickT; exact rfl; exact rfl) | (apply EvW.lenRow; exact rfl; exact UndC.eq; assumption) | (apply EvW.idxRow; exact rfl; exact rfl; exact UndC.eq; exact SzC.eq; assumption; omega; omega) | (apply EvW.fldRow; exact rfl; exact FldC.eq; assumption; omega)))
        | refine WC.seq ?_ | refine WC.region ?_ | refine WL.nil ?_ | refine WE.next ?_ | refine WC.ret ?_ | refine WL.wanted rfl rfl rfl ?_
      refine WE.bare ?_
      refine WE.ret1 rfl rfl ?_
      exact ⟨rfl, rfl⟩
    · rw [decide_eq_true h0, decide_eq_false hl]
      repeat first
        | refine WC.seq ?_ | refine WC.region ?_
      try refine WL.wanted rfl rfl rfl ?_
      (apply WL.box; exact rfl; exact rfl; exact rfl; intro q)
      repeat first
        | (apply WL.q; exact rfl; exact rfl; exact rfl; (first | (apply EvW.move; exact rfl) | (apply EvW.assign; exact rfl) | (apply EvW.fieldAddr0; exact rfl; exact FldC.eq) | (apply EvW.load; exact rfl; exact ScalC.eq; (focus ((repeat constructor); done)); exact rfl) | (apply EvW.cmpT; exact rfl; exact rfl; exact rfl; omega) | (apply EvW.cmpF; exact rfl; exact rfl; exact rfl; omega) | (apply EvW.pickT; exact rfl; exact rfl) | (apply EvW.pickF; exact rfl; exact rfl) | (apply EvW.lenRow; exact rfl; exact UndC.eq; assumption)))
        | refine WC.seq ?_ | refine WC.region ?_ | refine WL.nil ?_ | refine WE.next ?_ | refine WC.ret ?_ | refine WL.wanted rfl rfl rfl ?_ | refine WL.unwanted rfl rfl rfl rfl ?_
      refine WE.bare ?_
      refine WE.ret1 rfl rfl ?_
      exact ⟨rfl, rfl⟩
  · rw [decide_eq_false h0]
    repeat first
      | refine WC.seq ?_ | refine WC.region ?_
    try refine WL.wanted rfl rfl rfl ?_
    (apply WL.box; exact rfl; exact rfl; exact rfl; intro q)
    repeat first
      | (apply WL.q; exact rfl; exact rfl; exact rfl; (first | (apply EvW.move; exact rfl) | (apply EvW.assign; exact rfl) | (apply EvW.cmpF; exact rfl; exact rfl; exact rfl; omega) | (apply EvW.pickF; exact rfl; exact rfl)))
      | refine WC.seq ?_ | refine WC.region ?_ | refine WL.nil ?_ | refine WE.next ?_ | refine WC.ret ?_ | refine WL.unwanted rfl rfl rfl rfl ?_
    refine WE.bare ?_
    refine WE.ret1 rfl rfl ?_
    exact ⟨rfl, rfl⟩
theorem mine_at (c : Cfg) (oc : Int) (i : Nat) (h : i < c.secs.length) : c.mine oc i = decide ((c.secs.getD i default).oc = oc) := by
  unfold Cfg.mine
  rw [decide_eq_true (show (0 : Int) ≤ i by omega), decide_eq_true (show (i : Int) < c.secs.length by omega)]
  rfl
theorem rshape_spec (c : Cfg) (oc : Int) (w : World) (S : BSet) (hS : (sepL []).sat S w) (h : c.Seen w S) :
    Tri Try.prog 12 #[.agg (cfgC c).toArray, i64 oc] w S fun u A => ∃ a b d e, u = .agg #[a, b, d, e] ∧ A = [.own 3 1 (a) (c.lS oc).length ((c.lS oc).map i64), .own 3 1 (b) (c.lP oc).length ((c.lP oc).map i64), .own 3 1 (d) (c.lC oc).length ((c.lC oc).map i64), .own 3 1 (e) (c.lG oc).length ((c.lG oc).map i64)] := by
  refine Tri.enter (l := [.agg (cfgC c).toArray, i64 oc]) Try.func12 rfl Try.ntmps12 rfl [(0, .agg (cfgC c).toArray), (1, i64 oc)] (subA rfl) hS ?_
  have hsec := h.secs
  have hsig := h.sigs
  have hcrs := h.crs
  have hnS := h.nS
  have hnG := h.nG
  have hnC := h.nC
  repeat first
    | refine WC.seq ?_ | refine WC.region ?_
  try refine WL.wanted rfl rfl rfl ?_
  (apply WL.box; exact rfl; exact rfl; exact rfl; intro q1)
  skip
  try refine WL.wanted rfl rfl rfl ?_
  (apply WL.alloc; exact rfl; exact ZvC.eq; exact rfl; intro r)
  repeat first
    | refine WC.seq ?_ | refine WC.region ?_ | refine WL.nil ?_ | refine WE.next ?_
  try refine WL.wanted rfl rfl rfl ?_
  (apply WL.alloc; exact rfl; exact ZvC.eq; exact rfl; intro hh)
  repeat first
    | (apply WL.q; exact rfl; exact rfl; exact rfl; (first | (apply EvW.move; exact rfl) | (apply EvW.fieldAddr0; exact rfl; exact FldC.eq) | (apply EvW.load; exact rfl; exact ScalC.eq; (focus ((repeat constructor); done)); exact rfl) | (apply EvW.lenRow; exact rfl; exact UndC.eq; assumption)))
    | refine WC.seq ?_ | refine WC.region ?_ | refine WL.nil ?_ | refine WE.next ?_ | refine WC.block ?_
  refine WC.ownNil 3 1 ?_
  refine WC.ownNil 3 1 ?_
  refine WC.ownNil 3 1 ?_
  refine WC.ownNil 3 1 ?_
  refine WC.loopK (σ := Nat × Value × Value) [1, 2, 4, 5, 13, 14] (fun s => [(15, i64 s.1)]) (fun s => [.own 3 1 (s.2.1) (idx (c.pS oc) s.1).length ((idx (c.pS oc) s.1).map i64), .own 3 1 (s.2.2) (idx (c.pP oc) s.1).length ((idx (c.pP oc) s.1).map i64), .own 3 1 (.slice none 0 0) 0 [], .own 3 1 (.slice none 0 0) 0 [], .blk hh #[s.2.1, s.2.2, .slice none 0 0, .slice none 0 0] 51, .blk r #[.slice none 0 0, .slice none 0 0, .slice none 0 0, .slice none 0 0] 51, .blk q1 (cfgC c).toArray 30]) (fun s => s.1 ≤ c.secs.length) (fun s => c.secs.length - s.1) (0, .slice none 0 0, .slice none 0 0) (by (focus ((repeat (first | exact Pick.nil | (apply Pick.cons; exact rfl))); done))) (by (focus ((repeat (first | exact trivial | (refine ⟨rfl, ?_⟩))); done))) (fun _ h => h.keep (by repeat constructor)) (Nat.zero_le _) (fun s hs => ?_)
  obtain ⟨i, a, b⟩ := s
  simp only [List.cons_append, List.nil_append] at hs ⊢
  by_cases hlt : (i : Int) < c.secs.length
  · have hl1 := idx_le (c.pS oc) i
    have hl2 := idx_le (c.pP oc) i
    repeat first
      | (apply WL.q; exact rfl; exact rfl; exact rfl; (first | (apply EvW.move; exact rfl) | (apply EvW.cmpT; exact rfl; exact rfl; exact rfl; omega) | (apply EvW.idxRow; exact rfl; exact rfl; exact UndC.eq; exact SzC.eq; assumption; omega; omega)))
      | refine WC.seq ?_ | refine WC.region ?_ | refine WL.nil ?_ | refine WE.next ?_ | refine WC.block ?_ | refine WC.skip ?_ | refine WC.condT rfl ?_
    (apply WL.q; exact rfl; exact rfl; exact rfl; (apply EvW.ldElem (xs := c.secs) (z := (default : Sec)) (f := secC); exact rfl; exact AggC.eq; exact SzC.eq; exact rfl; exact fun _ => rfl; assumption; omega))
    try refine WL.wanted rfl rfl rfl ?_
    (apply WL.alloc; exact rfl; exact ZvC.eq; exact rfl; intro x)
    have hma := mine_at c oc i (by omega)
    by_cases hm : c.mine oc i = true
    · have hoc : (c.secs.getD ((i : Nat) : Int).toNat default).oc = oc := by rw [hm] at hma; exact of_decide_eq_true hma.symm
      have e1 : idx (c.pS oc) (i + 1) = idx (c.pS oc) i ++ [(i : Int)] := idx_yes hm
      have hl3 := idx_le (c.pS oc) (i + 1)
      by_cases hk : (c.secs.getD ((i : Nat) : Int).toNat default).k = 1
      · have e2 : idx (c.pP oc) (i + 1) = idx (c.pP oc) i ++ [(i : Int)] := idx_yes (by unfold Cfg.pP; rw [hm, decide_eq_true (show (c.secs.getD i default).k = 1 from hk)]; rfl)
        repeat first
          | (apply WL.q; exact rfl; exact rfl; exact rfl; (first | (apply EvW.move; exact rfl) | (apply EvW.assign; exact rfl) | (apply EvW.fieldAddr0; exact rfl; exact FldC.eq) | (apply EvW.load; exact rfl; exact ScalC.eq; (focus ((repeat constructor); done)); exact rfl) | (apply EvW.cmpF; exact rfl; exact rfl; exact rfl; omega)))
          | refine WC.seq ?_ | refine WC.region ?_ | refine WL.nil ?_ | refine WE.next ?_ | refine WC.skip ?_ | refine WC.condF rfl ?_ | (apply WL.store; exact rfl; exact rfl; (first | assumption | exact rfl); exact SzC.eq; (first | assumption | exact rfl); (focus ((repeat constructor); done)))
        try refine WL.wanted rfl rfl rfl ?_
        (apply WL.buildSlice; exact rfl; exact UndC.eq; exact SzC.eq; exact ZvC.eq; exact rfl; exact rfl; exact rfl; ((focus ((repeat (first | exact Flat.nil | (apply Flat.one; (first | exact rfl | assumption)) | (apply Flat.cons; exact rfl; exact rfl))); done))); exact rfl; exact rfl; intro c1)
        try refine WL.wanted rfl rfl rfl ?_
        (apply WL.append; exact rfl; exact rfl; exact rfl; exact UndC.eq; exact SzC.eq; exact ByC.eq; exact ZvC.eq; exact rfl; (first | exact notInt_sl UndC.eq | exact notInt_st UndC.eq); exact rfl; (focus ((repeat constructor); done)))
        · exact adds_blk .head rfl rfl
        · (omega)
        intro a2
        refine WL.ownEq (cs' := (idx (c.pS oc) (i + 1)).map i64) (len' := (idx (c.pS oc) (i + 1)).length) .head (by rw [e1]; simp) (by rw [e1]; simp) ?_
        (first | refine WL.slOwn (v := a2) (by repeat constructor) ?_ | refine WC.slOwn (v := a2) (by repeat constructor) ?_)
        intro hc_a2 ho_a2
        repeat first
          | (apply WL.q; exact rfl; exact rfl; exact rfl; (first | (apply EvW.move; exact rfl) | (apply EvW.fieldAddr0; exact rfl; exact FldC.eq) | (apply EvW.load; exact rfl; exact ScalC.eq; (focus ((repeat constructor); done)); exact rfl) | (apply EvW.cmpT; exact rfl; exact rfl; exact rfl; omega)))
          | refine WC.seq ?_ | refine WC.region ?_ | refine WL.nil ?_ | refine WE.next ?_ | refine WC.condT rfl ?_ | (apply WL.store; exact rfl; exact rfl; (first | assumption | exact rfl); exact SzC.eq; (first | assumption | exact rfl); (focus ((repeat constructor); done)))
        try refine WL.wanted rfl rfl rfl ?_
        (apply WL.buildSlice; exact rfl; exact UndC.eq; exact SzC.eq; exact ZvC.eq; exact rfl; exact rfl; exact rfl; ((focus ((repeat (first | exact Flat.nil | (apply Flat.one; (first | exact rfl | assumption)) | (apply Flat.cons; exact rfl; exact rfl))); done))); exact rfl; exact rfl; intro c2)
        try refine WL.wanted rfl rfl rfl ?_
        (apply WL.append; exact rfl; exact rfl; exact rfl; exact UndC.eq; exact SzC.eq; exact ByC.eq; exact ZvC.eq; exact rfl; (first | exact notInt_sl UndC.eq | exact notInt_st UndC.eq); exact rfl; (focus ((repeat constructor); done)))
        · exact adds_blk .head rfl rfl
        · (omega)
        intro b2
        refine WL.ownEq (cs' := (idx (c.pP oc) (i + 1)).map i64) (len' := (idx (c.pP oc) (i + 1)).length) .head (by rw [e2]; simp) (by rw [e2]; simp) ?_
        (first | refine WL.slOwn (v := b2) (by repeat constructor) ?_ | refine WC.slOwn (v := b2) (by repeat constructor) ?_)
        intro hc_b2 ho_b2
        repeat first
          | (apply WL.q; exact rfl; exact rfl; exact rfl; (first | (apply EvW.move; exact rfl) | (apply EvW.fieldAddr0; exact rfl; exact FldC.eq) | (apply EvW.arN; exact rfl; exact rfl; exact rfl; refine i64_in ?_ ?_ <;> omega)))
          | refine WC.region ?_ | refine WL.nil ?_ | refine WE.next ?_ | refine WE.out ?_ | (apply WL.store; exact rfl; exact rfl; (first | assumption | exact rfl); exact SzC.eq; (first | assumption | exact rfl); (focus ((repeat constructor); done)))
        exact WE.again (s := (i, a, b)) ((i + 1, a2, b2)) (by simp only []; omega) (by (focus ((repeat (first | exact trivial | (refine ⟨rfl, ?_⟩))); done))) (fun _ h => (by (try simp only []); exact h.keep (by repeat constructor))) (by (try simp only []); omega)
      · have e2 : idx (c.pP oc) (i + 1) = idx (c.pP oc) i := idx_no (by unfold Cfg.pP; rw [decide_eq_false (show ¬ (c.secs.getD i default).k = 1 from hk), Bool.and_false])
        repeat first
          | (apply WL.q; exact rfl; exact rfl; exact rfl; (first | (apply EvW.move; exact rfl) | (apply EvW.assign; exact rfl) | (apply EvW.fieldAddr0; exact rfl; exact FldC.eq) | (apply EvW.load; exact rfl; exact ScalC.eq; (focus ((repeat constructor); done)); exact rfl) | (apply EvW.cmpF; exact rfl; exact rfl; exact rfl; omega)))
          | refine WC.seq ?_ | refine WC.region ?_ | refine WL.nil ?_ | refine WE.next ?_ | refine WC.skip ?_ | refine WC.condF rfl ?_ | (apply WL.store; exact rfl; exact rfl; (first | assumption | exact rfl); exact SzC.eq; (first | assumption | exact rfl); (focus ((repeat constructor); done)))
        try refine WL.wanted rfl rfl rfl ?_
        (apply WL.buildSlice; exact rfl; exact UndC.eq; exact SzC.eq; exact ZvC.eq; exact rfl; exact rfl; exact rfl; ((focus ((repeat (first | exact Flat.nil | (apply Flat.one; (first | exact rfl | assumption)) | (apply Flat.cons; exact rfl; exact rfl))); done))); exact rfl; exact rfl; intro c1)
        try refine WL.wanted rfl rfl rfl ?_
        (apply WL.append; exact rfl; exact rfl; exact rfl; exact UndC.eq; exact SzC.eq; exact ByC.eq; exact ZvC.eq; exact rfl; (first | exact notInt_sl UndC.eq | exact notInt_st UndC.eq); exact rfl; (focus ((repeat constructor); done)))
        · exact adds_blk .head rfl rfl
        · (omega)
        intro a2
        refine WL.ownEq (cs' := (idx (c.pS oc) (i + 1)).map i64) (len' := (idx (c.pS oc) (i + 1)).length) .head (by rw [e1]; simp) (by rw [e1]; simp) ?_
        (first | refine WL.slOwn (v := a2) (by repeat constructor) ?_ | refine WC.slOwn (v := a2) (by repeat constructor) ?_)
        intro hc_a2 ho_a2
        repeat first
          | (apply WL.q; exact rfl; exact rfl; exact rfl; (first | (apply EvW.move; exact rfl) | (apply EvW.fieldAddr0; exact rfl; exact FldC.eq) | (apply EvW.load; exact rfl; exact ScalC.eq; (focus ((repeat constructor); done)); exact rfl) | (apply EvW.cmpF; exact rfl; exact rfl; exact rfl; omega) | (apply EvW.arN; exact rfl; exact rfl; exact rfl; refine i64_in ?_ ?_ <;> omega)))
          | refine WC.seq ?_ | refine WC.region ?_ | refine WL.nil ?_ | refine WE.next ?_ | refine WC.skip ?_ | refine WE.out ?_ | refine WC.condF rfl ?_ | (apply WL.store; exact rfl; exact rfl; (first | assumption | exact rfl); exact SzC.eq; (first | assumption | exact rfl); (focus ((repeat constructor); done)))
        exact WE.again (s := (i, a, b)) ((i + 1, a2, b)) (by simp only []; omega) (by (focus ((repeat (first | exact trivial | (refine ⟨rfl, ?_⟩))); done))) (fun _ h => (by (try simp only []); rw [e2]; exact h.keep (by repeat constructor))) (by (try simp only []); omega)
    · have hm : c.mine oc i = false := by simpa using hm
      have hoc : ¬ (c.secs.getD ((i : Nat) : Int).toNat default).oc = oc := by rw [hm] at hma; exact of_decide_eq_false hma.symm
      have e1 : idx (c.pS oc) (i + 1) = idx (c.pS oc) i := idx_no hm
      have e2 : idx (c.pP oc) (i + 1) = idx (c.pP oc) i := idx_no (by unfold Cfg.pP; rw [hm, Bool.false_and])
      repeat first
        | (apply WL.q; exact rfl; exact rfl; exact rfl; (first | (apply EvW.move; exact rfl) | (apply EvW.assign; exact rfl) | (apply EvW.fieldAddr0; exact rfl; exact FldC.eq) | (apply EvW.load; exact rfl; exact ScalC.eq; (focus ((repeat constructor); done)); exact rfl) | (apply EvW.cmpT; exact rfl; exact rfl; exact rfl; omega) | (apply EvW.arN; exact rfl; exact rfl; exact rfl; refine i64_in ?_ ?_ <;> omega)))
        | refine WC.seq ?_ | refine WC.region ?_ | refine WL.nil ?_ | refine WE.next ?_ | refine WC.exit ?_ | refine WE.pass ?_ | refine WE.hit ?_ | refine WC.condT rfl ?_ | (apply WL.store; exact rfl; exact rfl; (first | assumption | exact rfl); exact SzC.eq; (first | assumption | exact rfl); (focus ((repeat constructor); done)))
      exact WE.again (s := (i, a, b)) ((i + 1, a, b)) (by simp only []; omega) (by (focus ((repeat (first | exact trivial | (refine ⟨rfl, ?_⟩))); done))) (fun _ h => (by (try simp only []); rw [e1, e2]; exact h.keep (by repeat constructor))) (by (try simp only []); omega)
  obtain rfl : i = c.secs.length := by omega
  rw [show idx (c.pS oc) c.secs.length = c.lS oc from rfl, show idx (c.pP oc) c.secs.length = c.lP oc from rfl]
  repeat first
    | (apply WL.q; exact rfl; exact rfl; exact rfl; (first | (apply EvW.move; exact rfl) | (apply EvW.fieldAddr0; exact rfl; exact FldC.eq) | (apply EvW.load; exact rfl; exact ScalC.eq; (focus ((repeat constructor); done)); exact rfl) | (apply EvW.cmpF; exact rfl; exact rfl; exact rfl; omega) | (apply EvW.lenRow; exact rfl; exact UndC.eq; assumption)))
    | refine WC.seq ?_ | refine WC.region ?_ | refine WL.nil ?_ | refine WE.next ?_ | refine WC.block ?_ | refine WC.exit ?_ | refine WE.pass ?_ | refine WE.hit ?_ | refine WC.condF rfl ?_
  refine WC.loopK (σ := Nat × Value) [1, 2, 4, 5, 41, 42] (fun s => [(43, i64 s.1)]) (fun s => [.own 3 1 (s.2) (idx (c.pC oc) s.1).length ((idx (c.pC oc) s.1).map i64), .own 3 1 (a) (c.lS oc).length ((c.lS oc).map i64), .own 3 1 (b) (c.lP oc).length ((c.lP oc).map i64), .own 3 1 (.slice none 0 0) 0 [], .blk hh #[a, b, s.2, .slice none 0 0] 51, .blk r #[.slice none 0 0, .slice none 0 0, .slice none 0 0, .slice none 0 0] 51, .blk q1 (cfgC c).toArray 30]) (fun s => s.1 ≤ c.crs.length) (fun s => c.crs.length - s.1) (0, .slice none 0 0) (by (focus ((repeat (first | exact Pick.nil | (apply Pick.cons; exact rfl))); done))) (by (focus ((repeat (first | exact trivial | (refine ⟨rfl, ?_⟩))); done))) (fun _ h => h.keep (by repeat constructor)) (Nat.zero_le _) (fun s hs => ?_)
  obtain ⟨i, d⟩ := s
  simp only [List.cons_append, List.nil_append] at hs ⊢
  by_cases hlt2 : (i : Int) < c.crs.length
  · have hl1 := idx_le (c.pC oc) i
    have hl3 := idx_le (c.pC oc) (i + 1)
    repeat first
      | (apply WL.q; exact rfl; exact rfl; exact rfl; (first | (apply EvW.move; exact rfl) | (apply EvW.assign; exact rfl) | (apply EvW.cmpT; exact rfl; exact rfl; exact rfl; omega) | (apply EvW.loadAgg; exact rfl; exact AggC.eq; exact SzC.eq; (focus ((repeat constructor); done)); (focus ((repeat (first | exact SubL.nil | apply SubL.cons | apply SubL.succ)); done))) | (apply EvW.idxRow; exact rfl; exact rfl; exact UndC.eq; exact SzC.eq; assumption; omega; omega) | (apply EvW.ldInt; exact rfl; exact ScalC.eq; assumption; omega)))
      | refine WC.seq ?_ | refine WC.region ?_ | refine WL.nil ?_ | refine WE.next ?_ | refine WC.block ?_ | refine WC.skip ?_ | refine WC.condT rfl ?_
    try refine WL.wanted rfl rfl rfl ?_
    apply WL.callA ([])
    · exact rfl
    · exact rfl
    · exact fun w => Try.call39 _ w
    · (focus ((repeat constructor); done))
    · exact fun w1 S1 hS1 hs1 ho1 => of_spec c (c.crs.getD ((i : Nat) : Int).toNat 0) oc w1 S1 hS1 (h.down hs1)
    rintro _ _ ⟨rfl, rfl⟩
    first | refine WL.app4 ?_ | refine WL.app3 ?_ | refine WL.app2 ?_ | refine WL.app1 ?_ | refine WL.app0 ?_ | skip
    by_cases hm : c.mine oc (c.crs.getD ((i : Nat) : Int).toNat 0) = true
    · rw [hm]
      have e1 : idx (c.pC oc) (i + 1) = idx (c.pC oc) i ++ [(i : Int)] := idx_yes hm
      repeat first
        | (apply WL.q; exact rfl; exact rfl; exact rfl; (first | (apply EvW.move; exact rfl) | (apply EvW.fieldAddr0; exact rfl; exact FldC.eq) | (apply EvW.load; exact rfl; exact ScalC.eq; (focus ((repeat constructor); done)); exact rfl)))
        | refine WC.region ?_ | refine WL.nil ?_ | refine WE.next ?_ | refine WC.condT rfl ?_
      try refine WL.wanted rfl rfl rfl ?_
      (apply WL.buildSlice; exact rfl; exact UndC.eq; exact SzC.eq; exact ZvC.eq; exact rfl; exact rfl; exact rfl; ((focus ((repeat (first | exact Flat.nil | (apply Flat.one; (first | exact rfl | assumption)) | (apply Flat.cons; exact rfl; exact rfl))); done))); exact rfl; exact rfl; intro c1)
      try refine WL.wanted rfl rfl rfl ?_
      (apply WL.append; exact rfl; exact rfl; exact rfl; exact UndC.eq; exact SzC.eq; exact ByC.eq; exact ZvC.eq; exact rfl; (first | exact notInt_sl UndC.eq | exact notInt_st UndC.eq); exact rfl; (focus ((repeat constructor); done)))
      · exact adds_blk .head rfl rfl
      · (omega)
      intro d2
      refine WL.ownEq (cs' := (idx (c.pC oc) (i + 1)).map i64) (len' := (idx (c.pC oc) (i + 1)).length) .head (by rw [e1]; simp) (by rw [e1]; simp) ?_
      (first | refine WL.slOwn (v := d2) (by repeat constructor) ?_ | refine WC.slOwn (v := d2) (by repeat constructor) ?_)
      intro hc_d2 ho_d2
      repeat first
        | (apply WL.q; exact rfl; exact rfl; exact rfl; (first | (apply EvW.move; exact rfl) | (apply EvW.fieldAddr0; exact rfl; exact FldC.eq) | (apply EvW.arN; exact rfl; exact rfl; exact rfl; refine i64_in ?_ ?_ <;> omega)))
        | refine WC.region ?_ | refine WL.nil ?_ | refine WE.next ?_ | refine WE.out ?_ | (apply WL.store; exact rfl; exact rfl; (first | assumption | exact rfl); exact SzC.eq; (first | assumption | exact rfl); (focus ((repeat constructor); done)))
      exact WE.again (s := (i, d)) ((i + 1, d2)) (by simp only []; omega) (by (focus ((repeat (first | exact trivial | (refine ⟨rfl, ?_⟩))); done))) (fun _ h => (by (try simp only []); exact h.keep (by repeat constructor))) (by (try simp only []); omega)
    · have hm : c.mine oc (c.crs.getD ((i : Nat) : Int).toNat 0) = false := by simpa using hm
      rw [hm]
      have e1 : idx (c.pC oc) (i + 1) = idx (c.pC oc) i := idx_no hm
      repeat first
        | (apply WL.q; exact rfl; exact rfl; exact rfl; (first | (apply EvW.move; exact rfl) | (apply EvW.arN; exact rfl; exact rfl; exact rfl; refine i64_in ?_ ?_ <;> omega)))
        | refine WC.region ?_ | refine WL.nil ?_ | refine WE.next ?_ | refine WC.skip ?_ | refine WE.out ?_ | refine WC.condF rfl ?_
      exact WE.again (s := (i, d)) ((i + 1, d)) (by simp only []; omega) (by (focus ((repeat (first | exact trivial | (refine ⟨rfl, ?_⟩))); done))) (fun _ h => (by (try simp only []); rw [e1]; exact h.keep (by repeat constructor))) (by (try simp only []); omega)
  obtain rfl : i = c.crs.length := by omega
  rw [show idx (c.pC oc) c.crs.length = c.lC oc from rfl]
  repeat first
    | (apply WL.q; exact rfl; exact rfl; exact rfl; (first | (apply EvW.move; exact rfl) | (apply EvW.fieldAddr0; exact rfl; exact FldC.eq) | (apply EvW.load; exact rfl; exact ScalC.eq; (focus ((repeat constructor); done)); exact rfl) | (apply EvW.cmpF; exact rfl; exact rfl; exact rfl; omega) | (apply EvW.lenRow; exact rfl; exact UndC.eq; assumption)))
    | refine WC.seq ?_ | refine WC.region ?_ | refine WL.nil ?_ | refine WE.next ?_ | refine WC.block ?_ | refine WC.exit ?_ | refine WE.pass ?_ | refine WE.hit ?_ | refine WC.condF rfl ?_
  refine WC.loopK (σ := Nat × Value) [1, 2, 4, 5, 60, 61] (fun s => [(62, i64 s.1)]) (fun s => [.own 3 1 (s.2) (idx (c.pG oc) s.1).length ((idx (c.pG oc) s.1).map i64), .own 3 1 (a) (c.lS oc).length ((c.lS oc).map i64), .own 3 1 (b) (c.lP oc).length ((c.lP oc).map i64), .own 3 1 (d) (c.lC oc).length ((c.lC oc).map i64), .blk hh #[a, b, d, s.2] 51, .blk r #[.slice none 0 0, .slice none 0 0, .slice none 0 0, .slice none 0 0] 51, .blk q1 (cfgC c).toArray 30]) (fun s => s.1 ≤ c.sigs.length) (fun s => c.sigs.length - s.1) (0, .slice none 0 0) (by (focus ((repeat (first | exact Pick.nil | (apply Pick.cons; exact rfl))); done))) (by (focus ((repeat (first | exact trivial | (refine ⟨rfl, ?_⟩))); done))) (fun _ h => h.keep (by repeat constructor)) (Nat.zero_le _) (fun s hs => ?_)
  obtain ⟨i, e⟩ := s
  simp only [List.cons_append, List.nil_append] at hs ⊢
  by_cases hlt3 : (i : Int) < c.sigs.length
  · have hl1 := idx_le (c.pG oc) i
    have hl3 := idx_le (c.pG oc) (i + 1)
    repeat first
      | (apply WL.q; exact rfl; exact rfl; exact rfl; (first | (apply EvW.move; exact rfl) | (apply EvW.cmpT; exact rfl; exact rfl; exact rfl; omega) | (apply EvW.idxRow; exact rfl; exact rfl; exact UndC.eq; exact SzC.eq; assumption; omega; omega)))
      | refine WC.seq ?_ | refine WC.region ?_ | refine WL.nil ?_ | refine WE.next ?_ | refine WC.block ?_ | refine WC.skip ?_ | refine WC.condT rfl ?_
    (apply WL.q; exact rfl; exact rfl; exact rfl; (apply EvW.ldElem (xs := c.sigs) (z := (default : Sig)) (f := sigC); exact rfl; exact AggC.eq; exact SzC.eq; exact rfl; exact fun _ => rfl; assumption; omega))
    try refine WL.wanted rfl rfl rfl ?_
    (apply WL.alloc; exact rfl; exact ZvC.eq; exact rfl; intro x)
    repeat first
      | (apply WL.q; exact rfl; exact rfl; exact rfl; (first | (apply EvW.move; exact rfl) | (apply EvW.assign; exact rfl) | (apply EvW.fieldAddr0; exact rfl; exact FldC.eq) | (apply EvW.load; exact rfl; exact ScalC.eq; (focus ((repeat constructor); done)); exact rfl) | (apply EvW.loadAgg; exact rfl; exact AggC.eq; exact SzC.eq; (focus ((repeat constructor); done)); (focus ((repeat (first | exact SubL.nil | apply SubL.cons | apply SubL.succ)); done)))))
      | refine WC.seq ?_ | refine WC.region ?_ | refine WL.nil ?_ | refine WE.next ?_ | (apply WL.store; exact rfl; exact rfl; (first | assumption | exact rfl); exact SzC.eq; (first | assumption | exact rfl); (focus ((repeat constructor); done)))
    try refine WL.wanted rfl rfl rfl ?_
    apply WL.callA ([])
    · exact rfl
    · exact rfl
    · exact fun w => Try.call39 _ w
    · (focus ((repeat constructor); done))
    · exact fun w1 S1 hS1 hs1 ho1 => of_spec c ((c.sigs.getD ((i : Nat) : Int).toNat default).s) oc w1 S1 hS1 (h.down hs1)
    rintro _ _ ⟨rfl, rfl⟩
    first | refine WL.app4 ?_ | refine WL.app3 ?_ | refine WL.app2 ?_ | refine WL.app1 ?_ | refine WL.app0 ?_ | skip
    by_cases hm : c.mine oc (c.sigs.getD ((i : Nat) : Int).toNat default).s = true
    · rw [hm]
      have e1 : idx (c.pG oc) (i + 1) = idx (c.pG oc) i ++ [(i : Int)] := idx_yes hm
      repeat first
        | (apply WL.q; exact rfl; exact rfl; exact rfl; (first | (apply EvW.move; exact rfl) | (apply EvW.fieldAddr0; exact rfl; exact FldC.eq) | (apply EvW.load; exact rfl; exact ScalC.eq; (focus ((repeat constructor); done)); exact rfl)))
        | refine WC.region ?_ | refine WL.nil ?_ | refine WE.next ?_ | refine WC.condT rfl ?_
      try refine WL.wanted rfl rfl rfl ?_
      (apply WL.buildSlice; exact rfl; exact UndC.eq; exact SzC.eq; exact ZvC.eq; exact rfl; exact rfl; exact rfl; ((focus ((repeat (first | exact Flat.nil | (apply Flat.one; (first | exact rfl | assumption)) | (apply Flat.cons; exact rfl; exact rfl))); done))); exact rfl; exact rfl; intro c1)
      try refine WL.wanted rfl rfl rfl ?_
      (apply WL.append; exact rfl; exact rfl; exact rfl; exact UndC.eq; exact SzC.eq; exact ByC.eq; exact ZvC.eq; exact rfl; (first | exact notInt_sl UndC.eq | exact notInt_st UndC.eq); exact rfl; (focus ((repeat constructor); done)))
      · exact adds_blk .head rfl rfl
      · (omega)
      intro e2
      refine WL.ownEq (cs' := (idx (c.pG oc) (i + 1)).map i64) (len' := (idx (c.pG oc) (i + 1)).length) .head (by rw [e1]; simp) (by rw [e1]; simp) ?_
      (first | refine WL.slOwn (v := e2) (by repeat constructor) ?_ | refine WC.slOwn (v := e2) (by repeat constructor) ?_)
      intro hc_e2 ho_e2
      repeat first
        | (apply WL.q; exact rfl; exact rfl; exact rfl; (first | (apply EvW.move; exact rfl) | (apply EvW.fieldAddr0; exact rfl; exact FldC.eq) | (apply EvW.arN; exact rfl; exact rfl; exact rfl; refine i64_in ?_ ?_ <;> omega)))
        | refine WC.region ?_ | refine WL.nil ?_ | refine WE.next ?_ | refine WE.out ?_ | (apply WL.store; exact rfl; exact rfl; (first | assumption | exact rfl); exact SzC.eq; (first | assumption | exact rfl); (focus ((repeat constructor); done)))
      exact WE.again (s := (i, e)) ((i + 1, e2)) (by simp only []; omega) (by (focus ((repeat (first | exact trivial | (refine ⟨rfl, ?_⟩))); done))) (fun _ h => (by (try simp only []); exact h.keep (by repeat constructor))) (by (try simp only []); omega)
    · have hm : c.mine oc (c.sigs.getD ((i : Nat) : Int).toNat default).s = false := by simpa using hm
      rw [hm]
      have e1 : idx (c.pG oc) (i + 1) = idx (c.pG oc) i := idx_no hm
      repeat first
        | (apply WL.q; exact rfl; exact rfl; exact rfl; (first | (apply EvW.move; exact rfl) | (apply EvW.arN; exact rfl; exact rfl; exact rfl; refine i64_in ?_ ?_ <;> omega)))
        | refine WC.region ?_ | refine WL.nil ?_ | refine WE.next ?_ | refine WC.skip ?_ | refine WE.out ?_ | refine WC.condF rfl ?_
      exact WE.again (s := (i, e)) ((i + 1, e)) (by simp only []; omega) (by (focus ((repeat (first | exact trivial | (refine ⟨rfl, ?_⟩))); done))) (fun _ h => (by (try simp only []); rw [e1]; exact h.keep (by repeat constructor))) (by (try simp only []); omega)
  obtain rfl : i = c.sigs.length := by omega
  rw [show idx (c.pG oc) c.sigs.length = c.lG oc from rfl]
  (first | refine WL.slOwn (v := a) (by repeat constructor) ?_ | refine WC.slOwn (v := a) (by repeat constructor) ?_)
  intro hc_a ho_a
  (first | refine WL.slOwn (v := b) (by repeat constructor) ?_ | refine WC.slOwn (v := b) (by repeat constructor) ?_)
  intro hc_b ho_b
  (first | refine WL.slOwn (v := d) (by repeat constructor) ?_ | refine WC.slOwn (v := d) (by repeat constructor) ?_)
  intro hc_d ho_d
  (first | refine WL.slOwn (v := e) (by repeat constructor) ?_ | refine WC.slOwn (v := e) (by repeat constructor) ?_)
  intro hc_e ho_e
  have hall : ([a, b, d, e] : List Value).all (·.oneCell') = true := by
    simp at ho_a ho_b ho_d ho_e
    simp [ho_a, ho_b, ho_d, ho_e]
  clear hc_a hc_b hc_d hc_e ho_a ho_b ho_d ho_e
  repeat first
    | (apply WL.q; exact rfl; exact rfl; exact rfl; (first | (apply EvW.cmpF; exact rfl; exact rfl; exact rfl; omega) | (apply EvW.loadAgg; exact rfl; exact AggC.eq; exact SzC.eq; (focus ((repeat constructor); done)); (focus ((repeat (first | exact SubL.nil | apply SubL.cons | apply SubL.succ)); done)))))
    | refine WC.seq ?_ | refine WC.region ?_ | refine WL.nil ?_ | refine WE.next ?_ | refine WC.exit ?_ | refine WE.pass ?_ | refine WE.hit ?_ | refine WC.condF rfl ?_ | refine WC.ret ?_ | (apply WL.store; exact rfl; exact rfl; (first | assumption | exact rfl); exact SzC.eq; (first | assumption | exact rfl); (focus ((repeat constructor); done)))
  (apply WE.retC (A' := [.own 3 1 (a) (c.lS oc).length ((c.lS oc).map i64), .own 3 1 (b) (c.lP oc).length ((c.lP oc).map i64), .own 3 1 (d) (c.lC oc).length ((c.lC oc).map i64), .own 3 1 (e) (c.lG oc).length ((c.lG oc).map i64)]); exact rfl; exact rfl; (focus ((repeat constructor); done)); exact AggC.eq; exact SzC.eq; exact fun _ h => h.keep (by repeat constructor))
  exact ⟨a, b, d, e, rfl, rfl⟩
end Go.Proofs.Ytamofjpadnnppaa
namespace Go.Proofs.Ytamofjpadnnppaa
open Go.RowKit Go.BK
theorem all_flat {α : Type} {f : α → List Value} (h : ∀ a, (f a).all (·.oneCell') = true) (l : List α) : (l.flatMap f).all (·.oneCell') = true := by
  rw [List.all_eq_true]
  intro x hx
  obtain ⟨s, _, hs⟩ := List.mem_flatMap.1 hx
  exact List.all_eq_true.1 (h s) x hs
theorem all_i64 (l : List Int) : (l.map i64).all (·.oneCell') = true := by
  rw [List.all_eq_true]
  intro x hx
  obtain ⟨s, _, rfl⟩ := List.mem_map.1 hx
  rfl
theorem cloneS_spec (ds : List Sec) (v : Value) (w : World) (S : BSet) (hS : (sepL []).sat S w) (hv : Sees w S (.row 3 v ds.length (ds.flatMap secC))) (hn : ds.length ≤ 1048576) :
    Tri Try.prog 24 #[v] w S fun u A => A = [.own 47 3 u ds.length (ds.flatMap secC)] := by
  refine Tri.enter (l := [v]) Try.func24 rfl Try.ntmps24 rfl [(0, v)] (subA rfl) hS ?_
  rcases id hv.row_shape with ⟨p, cap, rfl, h0, h1⟩ | ⟨b, off, cap, rfl, h1⟩
  · cases p with
    | none =>
      obtain rfl : ds = [] := List.length_eq_zero_iff.1 h0
      refine WC.ownNil 47 3 ?_
      repeat first
        | (apply WL.q; exact rfl; exact rfl; exact rfl; (first | (apply EvW.move; exact rfl) | (apply EvW.assign; exact rfl) | (apply EvW.eqNilT; exact rfl; exact rfl; exact UndC.eq)))
        | refine WC.seq ?_ | refine WC.region ?_ | refine WL.nil ?_ | refine WE.next ?_ | refine WC.condT rfl ?_ | refine WC.ret ?_ | refine WE.passRet ?_
      refine WE.ret1 rfl rfl ?_
      exact rfl
    | some p =>
      repeat first
        | (apply WL.q; exact rfl; exact rfl; exact rfl; (first | (apply EvW.move; exact rfl) | (apply EvW.assign; exact rfl) | (apply EvW.eqNilF; exact rfl; exact rfl; exact UndC.eq)))
        | refine WC.seq ?_ | refine WC.region ?_ | refine WL.nil ?_ | refine WE.next ?_ | refine WC.skip ?_ | refine WC.condF rfl ?_
      try refine WL.wanted rfl rfl rfl ?_
      (apply WL.buildSlice; exact rfl; exact UndC.eq; exact SzC.eq; exact ZvC.eq; exact rfl; exact rfl; exact rfl; ((focus ((repeat (first | exact Flat.nil | (apply Flat.one; (first | exact rfl | assumption)) | (apply Flat.cons; exact rfl; exact rfl))); done))); exact rfl; exact rfl; intro k0)
      refine WL.toOwn (bl := k0) 0 3 .head rfl ?_
      repeat first
        | (apply WL.q; exact rfl; exact rfl; exact rfl; (first | (apply EvW.move; exact rfl)))
      try refine WL.wanted rfl rfl rfl ?_
      (apply WL.append; exact rfl; exact rfl; exact rfl; exact UndC.eq; exact SzC.eq; exact ByC.eq; exact ZvC.eq; exact rfl; (first | exact notInt_sl UndC.eq | exact notInt_st UndC.eq); exact rfl; (focus ((repeat constructor); done)))
      · exact (adds_row hv (all_flat (fun _ => rfl) _))
      · (simp; omega)
      intro v1
      refine WL.ownEq (cs' := ds.flatMap secC) (len' := ds.length) .head (by simp) (by simp) ?_
      repeat first
        | (apply WL.q; exact rfl; exact rfl; exact rfl; (first | (apply EvW.assign; exact rfl)))
        | refine WL.nil ?_ | refine WE.next ?_ | refine WC.ret ?_
      refine WE.ret1 rfl rfl ?_
      exact rfl
  · repeat first
      | (apply WL.q; exact rfl; exact rfl; exact rfl; (first | (apply EvW.move; exact rfl) | (apply EvW.assign; exact rfl) | (apply EvW.eqNilF; exact rfl; exact rfl; exact UndC.eq)))
      | refine WC.seq ?_ | refine WC.region ?_ | refine WL.nil ?_ | refine WE.next ?_ | refine WC.skip ?_ | refine WC.condF rfl ?_
    try refine WL.wanted rfl rfl rfl ?_
    (apply WL.buildSlice; exact rfl; exact UndC.eq; exact SzC.eq; exact ZvC.eq; exact rfl; exact rfl; exact rfl; ((focus ((repeat (first | exact Flat.nil | (apply Flat.one; (first | exact rfl | assumption)) | (apply Flat.cons; exact rfl; exact rfl))); done))); exact rfl; exact rfl; intro k0)
    refine WL.toOwn (bl := k0) 0 3 .head rfl ?_
    repeat first
      | (apply WL.q; exact rfl; exact rfl; exact rfl; (first | (apply EvW.move; exact rfl)))
    try refine WL.wanted rfl rfl rfl ?_
    (apply WL.append; exact rfl; exact rfl; exact rfl; exact UndC.eq; exact SzC.eq; exact ByC.eq; exact ZvC.eq; exact rfl; (first | exact notInt_sl UndC.eq | exact notInt_st UndC.eq); exact rfl; (focus ((repeat constructor); done)))
    · exact (adds_row hv (all_flat (fun _ => rfl) _))
    · (simp; omega)
    intro v1
    refine WL.ownEq (cs' := ds.flatMap secC) (len' := ds.length) .head (by simp) (by simp) ?_
    repeat first
      | (apply WL.q; exact rfl; exact rfl; exact rfl; (first | (apply EvW.assign; exact rfl)))
      | refine WL.nil ?_ | refine WE.next ?_ | refine WC.ret ?_
    refine WE.ret1 rfl rfl ?_
    exact rfl
theorem cloneG_spec (ds : List Sig) (v : Value) (w : World) (S : BSet) (hS : (sepL []).sat S w) (hv : Sees w S (.row 2 v ds.length (ds.flatMap sigC))) (hn : ds.length ≤ 1048576) :
    Tri Try.prog 26 #[v] w S fun u A => A = [.own 70 2 u ds.length (ds.flatMap sigC)] := by
  refine Tri.enter (l := [v]) Try.func26 rfl Try.ntmps26 rfl [(0, v)] (subA rfl) hS ?_
  rcases id hv.row_shape with ⟨p, cap, rfl, h0, h1⟩ | ⟨b, off, cap, rfl, h1⟩
  · cases p with
    | none =>
      obtain rfl : ds = [] := List.length_eq_zero_iff.1 h0
      refine WC.ownNil 70 2 ?_
      repeat first
        | (apply WL.q; exact rfl; exact rfl; exact rfl; (first | (apply EvW.move; exact rfl) | (apply EvW.assign; exact rfl) | (apply EvW.eqNilT; exact rfl; exact rfl; exact UndC.eq)))
        | refine WC.seq ?_ | refine WC.region ?_ | refine WL.nil ?_ | refine WE.next ?_ | refine WC.condT rfl ?_ | refine WC.ret ?_ | refine WE.passRet ?_
      refine WE.ret1 rfl rfl ?_
      exact rfl
    | some p =>
      repeat first
        | (apply WL.q; exact rfl; exact rfl; exact rfl; (first | (apply EvW.move; exact rfl) | (apply EvW.assign; exact rfl) | (apply EvW.eqNilF; exact rfl; exact rfl; exact UndC.eq)))
        | refine WC.seq ?_ | refine WC.region ?_ | refine WL.nil ?_ | refine WE.next ?_ | refine WC.skip ?_ | refine WC.condF rfl ?_
      try refine WL.wanted rfl rfl rfl ?_
      (apply WL.buildSlice; exact rfl; exact UndC.eq; exact SzC.eq; exact ZvC.eq; exact rfl; exact rfl; exact rfl; ((focus ((repeat (first | exact Flat.nil | (apply Flat.one; (first | exact rfl | assumption)) | (apply Flat.cons; exact rfl; exact rfl))); done))); exact rfl; exact rfl; intro k0)
      refine WL.toOwn (bl := k0) 0 2 .head rfl ?_
      repeat first
        | (apply WL.q; exact rfl; exact rfl; exact rfl; (first | (apply EvW.move; exact rfl)))
      try refine WL.wanted rfl rfl rfl ?_
      (apply WL.append; exact rfl; exact rfl; exact rfl; exact UndC.eq; exact SzC.eq; exact ByC.eq; exact ZvC.eq; exact rfl; (first | exact notInt_sl UndC.eq | exact notInt_st UndC.eq); exact rfl; (focus ((repeat constructor); done)))
      · exact (adds_row hv (all_flat (fun _ => rfl) _))
      · (simp; omega)
      intro v1
      refine WL.ownEq (cs' := ds.flatMap sigC) (len' := ds.length) .head (by simp) (by simp) ?_
      repeat first
        | (apply WL.q; exact rfl; exact rfl; exact rfl; (first | (apply EvW.assign; exact rfl)))
        | refine WL.nil ?_ | refine WE.next ?_ | refine WC.ret ?_
      refine WE.ret1 rfl rfl ?_
      exact rfl
  · repeat first
      | (apply WL.q; exact rfl; exact rfl; exact rfl; (first | (apply EvW.move; exact rfl) | (apply EvW.assign; exact rfl) | (apply EvW.eqNilF; exact rfl; exact rfl; exact UndC.eq)))
      | refine WC.seq ?_ | refine WC.region ?_ | refine WL.nil ?_ | refine WE.next ?_ | refine WC.skip ?_ | refine WC.condF rfl ?_
    try refine WL.wanted rfl rfl rfl ?_
    (apply WL.buildSlice; exact rfl; exact UndC.eq; exact SzC.eq; exact ZvC.eq; exact rfl; exact rfl; exact rfl; ((focus ((repeat (first | exact Flat.nil | (apply Flat.one; (first | exact rfl | assumption)) | (apply Flat.cons; exact rfl; exact rfl))); done))); exact rfl; exact rfl; intro k0)
    refine WL.toOwn (bl := k0) 0 2 .head rfl ?_
    repeat first
      | (apply WL.q; exact rfl; exact rfl; exact rfl; (first | (apply EvW.move; exact rfl)))
    try refine WL.wanted rfl rfl rfl ?_
    (apply WL.append; exact rfl; exact rfl; exact rfl; exact UndC.eq; exact SzC.eq; exact ByC.eq; exact ZvC.eq; exact rfl; (first | exact notInt_sl UndC.eq | exact notInt_st UndC.eq); exact rfl; (focus ((repeat constructor); done)))
    · exact (adds_row hv (all_flat (fun _ => rfl) _))
    · (simp; omega)
    intro v1
    refine WL.ownEq (cs' := ds.flatMap sigC) (len' := ds.length) .head (by simp) (by simp) ?_
    repeat first
      | (apply WL.q; exact rfl; exact rfl; exact rfl; (first | (apply EvW.assign; exact rfl)))
      | refine WL.nil ?_ | refine WE.next ?_ | refine WC.ret ?_
    refine WE.ret1 rfl rfl ?_
    exact rfl
theorem cloneI_spec (ds : List Int) (v : Value) (w : World) (S : BSet) (hS : (sepL []).sat S w) (hv : Sees w S (.row 1 v ds.length (ds.map i64))) (hn : ds.length ≤ 1048576) :
    Tri Try.prog 25 #[v] w S fun u A => A = [.own 3 1 u ds.length (ds.map i64)] := by
  refine Tri.enter (l := [v]) Try.func25 rfl Try.ntmps25 rfl [(0, v)] (subA rfl) hS ?_
  rcases id hv.row_shape with ⟨p, cap, rfl, h0, h1⟩ | ⟨b, off, cap, rfl, h1⟩
  · cases p with
    | none =>
      obtain rfl : ds = [] := List.length_eq_zero_iff.1 h0
      refine WC.ownNil 3 1 ?_
      repeat first
        | (apply WL.q; exact rfl; exact rfl; exact rfl; (first | (apply EvW.move; exact rfl) | (apply EvW.assign; exact rfl) | (apply EvW.eqNilT; exact rfl; exact rfl; exact UndC.eq)))
        | refine WC.seq ?_ | refine WC.region ?_ | refine WL.nil ?_ | refine WE.next ?_ | refine WC.condT rfl ?_ | refine WC.ret ?_ | refine WE.passRet ?_
      refine WE.ret1 rfl rfl ?_
      exact rfl
    | some p =>
      repeat first
        | (apply WL.q; exact rfl; exact rfl; exact rfl; (first | (apply EvW.move; exact rfl) | (apply EvW.assign; exact rfl) | (apply EvW.eqNilF; exact rfl; exact rfl; exact UndC.eq)))
        | refine WC.seq ?_ | refine WC.region ?_ | refine WL.nil ?_ | refine WE.next ?_ | refine WC.skip ?_ | refine WC.condF rfl ?_
      try refine WL.wanted rfl rfl rfl ?_
      (apply WL.buildSlice; exact rfl; exact UndC.eq; exact SzC.eq; exact ZvC.eq; exact rfl; exact rfl; exact rfl; ((focus ((repeat (first | exact Flat.nil | (apply Flat.one; (first | exact rfl | assumption)) | (apply Flat.cons; exact rfl; exact rfl))); done))); exact rfl; exact rfl; intro k0)
      refine WL.toOwn (bl := k0) 0 1 .head rfl ?_
      repeat first
        | (apply WL.q; exact rfl; exact rfl; exact rfl; (first | (apply EvW.move; exact rfl)))
      try refine WL.wanted rfl rfl rfl ?_
      (apply WL.append; exact rfl; exact rfl; exact rfl; exact UndC.eq; exact SzC.eq; exact ByC.eq; exact ZvC.eq; exact rfl; (first | exact notInt_sl UndC.eq | exact notInt_st UndC.eq); exact rfl; (focus ((repeat constructor); done)))
      · exact (adds_row hv (all_i64 _))
      · (simp; omega)
      intro v1
      refine WL.ownEq (cs' := ds.map i64) (len' := ds.length) .head (by simp) (by simp) ?_
      repeat first
        | (apply WL.q; exact rfl; exact rfl; exact rfl; (first | (apply EvW.assign; exact rfl)))
        | refine WL.nil ?_ | refine WE.next ?_ | refine WC.ret ?_
      refine WE.ret1 rfl rfl ?_
      exact rfl
  · repeat first
      | (apply WL.q; exact rfl; exact rfl; exact rfl; (first | (apply EvW.move; exact rfl) | (apply EvW.assign; exact rfl) | (apply EvW.eqNilF; exact rfl; exact rfl; exact UndC.eq)))
      | refine WC.seq ?_ | refine WC.region ?_ | refine WL.nil ?_ | refine WE.next ?_ | refine WC.skip ?_ | refine WC.condF rfl ?_
    try refine WL.wanted rfl rfl rfl ?_
    (apply WL.buildSlice; exact rfl; exact UndC.eq; exact SzC.eq; exact ZvC.eq; exact rfl; exact rfl; exact rfl; ((focus ((repeat (first | exact Flat.nil | (apply Flat.one; (first | exact rfl | assumption)) | (apply Flat.cons; exact rfl; exact rfl))); done))); exact rfl; exact rfl; intro k0)
    refine WL.toOwn (bl := k0) 0 1 .head rfl ?_
    repeat first
      | (apply WL.q; exact rfl; exact rfl; exact rfl; (first | (apply EvW.move; exact rfl)))
    try refine WL.wanted rfl rfl rfl ?_
    (apply WL.append; exact rfl; exact rfl; exact rfl; exact UndC.eq; exact SzC.eq; exact ByC.eq; exact ZvC.eq; exact rfl; (first | exact notInt_sl UndC.eq | exact notInt_st UndC.eq); exact rfl; (focus ((repeat constructor); done)))
    · exact (adds_row hv (all_i64 _))
    · (simp; omega)
    intro v1
    refine WL.ownEq (cs' := ds.map i64) (len' := ds.length) .head (by simp) (by simp) ?_
    repeat first
      | (apply WL.q; exact rfl; exact rfl; exact rfl; (first | (apply EvW.assign; exact rfl)))
      | refine WL.nil ?_ | refine WE.next ?_ | refine WC.ret ?_
    refine WE.ret1 rfl rfl ?_
    exact rfl
def voiceH (v : Voice) : HP := sepL [.blk (v).b #[ptr (v).r 0, (v).sh.a, (v).sh.b, (v).sh.y, (v).sh.d, (v).sd.a, (v).sd.b, (v).sd.y, (v).sd.d, i64 (v).stamp] 78, .blk v.r #[i64 (v.rc).last, i64 (v.rc).lost, i64 (v.rc).num, i64 (v.rc).peer, i64 (v.rc).age] 85, .own 3 1 ((v.sh).a) ((v.sh).la).length (((v.sh).la).map i64), .own 3 1 ((v.sh).b) ((v.sh).lb).length (((v.sh).lb).map i64), .own 3 1 ((v.sh).y) ((v.sh).ly).length (((v.sh).ly).map i64), .own 3 1 ((v.sh).d) ((v.sh).ld).length (((v.sh).ld).map i64), .own 3 1 ((v.sd).a) ((v.sd).la).length (((v.sd).la).map i64), .own 3 1 ((v.sd).b) ((v.sd).lb).length (((v.sd).lb).map i64), .own 3 1 ((v.sd).y) ((v.sd).ly).length (((v.sd).ly).map i64), .own 3 1 ((v.sd).d) ((v.sd).ld).length (((v.sd).ld).map i64)]
def imgH (x : Img) : HP := sepL [.blk (x).b #[(x).c.vS, (x).c.vJ, (x).c.vG, (x).c.vC, (x).c.vR, i64 (x).c.age, i64 (x).c.brake, i64 (x).c.hold, i64 (x).c.budget, (x).vv] 73, .own 47 3 (x.c).vS (x.c).secs.length ((x.c).secs.flatMap secC), .own 70 2 (x.c).vG (x.c).sigs.length ((x.c).sigs.flatMap sigC), .own 3 1 (x.c).vC (x.c).crs.length ((x.c).crs.map i64), .own 74 1 x.vv 4 (x.vs.map vPtr), sepL (x.vs.map voiceH)]
def nilQ : Q4 := ⟨.slice none 0 0, .slice none 0 0, .slice none 0 0, .slice none 0 0, [], [], [], []⟩
/-- Which elements a controller has, at these values. -/
def Cfg.shape (c : Cfg) (oc : Int) (v : Value) : Q4 := ⟨cA v 0, cA v 1, cA v 2, cA v 3, c.lS oc, c.lP oc, c.lC oc, c.lG oc⟩
def newV (c : Cfg) (k : Nat) (p : Value) : Voice := ⟨pB (cA p 0), pB (cA p 1), Rcv.new k c.age, c.shape k (cA p 2), nilQ, -1⟩
def ownC (c : Cfg) (s g r : Value) : Cfg := { c with vS := s, vJ := .slice none 0 0, vG := g, vC := r, vR := .slice none 0 0 }
def newI (c : Cfg) (p : Nat × Value) : Img := ⟨p.1, ownC c (cA p.2 0) (cA p.2 1) (cA p.2 2), cA p.2 3, ([0, 1, 2, 3] : List Nat).map fun k => newV c k (cA (cA p.2 4) k)⟩
def vsOf (c : Cfg) (ps : List Value) : List Voice := ps.mapIdx (newV c)
theorem vsOf_snoc (c : Cfg) (ps : List Value) (p : Value) : vsOf c (ps ++ [p]) = vsOf c ps ++ [newV c ps.length p] := by unfold vsOf; rw [List.mapIdx_append]; simp
theorem vsOf_four (c : Cfg) (ps : List Value) (h : ps.length = 4) : vsOf c ps = ([0, 1, 2, 3] : List Nat).map fun k => newV c k (cA (.agg ps.toArray) k) := by
  match ps, h with
  | [a, b, d, e], _ => rfl
theorem own_lS (g : Cfg) (s a r : Value) (oc : Int) : (ownC g s a r).lS oc = g.lS oc := rfl
theorem own_lP (g : Cfg) (s a r : Value) (oc : Int) : (ownC g s a r).lP oc = g.lP oc := rfl
theorem own_lC (g : Cfg) (s a r : Value) (oc : Int) : (ownC g s a r).lC oc = g.lC oc := rfl
theorem own_lG (g : Cfg) (s a r : Value) (oc : Int) : (ownC g s a r).lG oc = g.lG oc := rfl
theorem ownShape_spec (g : Cfg) (vs vg vr : Value) (oc : Int) (w : World) (S : BSet) (hS : (sepL []).sat S w) (h1 : Sees w S (.own 47 3 vs g.secs.length (g.secs.flatMap secC))) (h2 : Sees w S (.own 70 2 vg g.sigs.length (g.sigs.flatMap sigC))) (h3 : Sees w S (.own 3 1 vr g.crs.length (g.crs.map i64))) (n1 : g.secs.length ≤ 8796093022208) (n2 : g.sigs.length ≤ 8796093022208) (n3 : g.crs.length ≤ 17592186044416) :
    Tri Try.prog 28 #[.agg #[vs, (.slice none 0 0), vg, vr, (.slice none 0 0), i64 g.age, i64 g.brake, i64 g.hold, i64 g.budget], i64 oc] w S fun u A => ∃ a b d e, u = .agg #[a, b, d, e] ∧ A = [.own 3 1 (a) ((g.lS oc)).length (((g.lS oc)).map i64), .own 3 1 (b) ((g.lP oc)).length (((g.lP oc)).map i64), .own 3 1 (d) ((g.lC oc)).length (((g.lC oc)).map i64), .own 3 1 (e) ((g.lG oc)).length (((g.lG oc)).map i64)] := by
  have h := shape_spec (ownC g vs vg vr) oc w S hS ⟨h1.own, h2.own, h3.own, n1, n2, n3⟩
  rw [own_lS, own_lP, own_lC, own_lG] at h
  exact h
end Go.Proofs.Ytamofjpadnnppaa
namespace Go.Proofs.Ytamofjpadnnppaa
open Go.RowKit Go.BK
set_option maxHeartbeats 1000000 in
theorem newI_spec (g : Cfg) (w : World) (S : BSet) (hS : (sepL []).sat S w) (h : g.Seen w S) (hs : g.Small) :
    Tri Try.prog 8 #[.agg (cfgC g).toArray] w S fun u A => ∃ p : Nat × Value, u = ptr p.1 0 ∧ A = [imgH (newI g p)] := by
  refine Tri.enter (l := [.agg (cfgC g).toArray]) Try.func8 rfl Try.ntmps8 rfl [(0, .agg (cfgC g).toArray)] (subA rfl) hS ?_
  obtain ⟨hnS, hnG, hnC⟩ := hs
  have hsec := h.secs
  have hsig := h.sigs
  have hcrs := h.crs
  repeat first
    | refine WC.seq ?_ | refine WC.region ?_
  try refine WL.wanted rfl rfl rfl ?_
  (apply WL.box; exact rfl; exact rfl; exact rfl; intro q0)
  repeat first
    | (apply WL.q; exact rfl; exact rfl; exact rfl; (first | (apply EvW.assign; exact rfl)))
    | refine WC.seq ?_ | refine WL.nil ?_ | refine WE.next ?_
  repeat refine WC.seq ?_
  refine WC.keep (xs := [.blk q0 (cfgC g).toArray 30]) (by repeat constructor) ?_
  apply WC.par _ (fun c : Ch => [.blk q0 (cfgC g).toArray 30, .own 47 3 (c 2).2 g.secs.length (g.secs.flatMap secC), .own 3 1 (c 5).2 g.crs.length (g.crs.map i64), .own 70 2 (c 8).2 g.sigs.length (g.sigs.flatMap sigC), .blk (c 12).1 #[(.slice none 0 0), (.slice none 0 0), (.slice none 0 0), (.slice none 0 0), (.slice none 0 0), i64 0, i64 0, i64 0, i64 0] 30, .blk (c 12).1 (cfgC (ownC g (c 2).2 (c 8).2 (c 5).2)).toArray 30]) [none, some 2, some 5, some 8, some 12, some 13] [none, none, none, none, some 13, none] [(2, fun x => x.2), (5, fun x => x.2), (8, fun x => x.2), (12, fun x => ptr x.1 0)] Try.mixed
  · (focus ((repeat (first | exact Restr.nil | (apply Restr.keep; exact rfl; exact rfl) | (apply Restr.drop; exact rfl))); done))
  · intro c; exact (by repeat constructor)
  · exact rfl
  · decide +kernel
  · decide +kernel
  · intro c
    (apply Par.quiet _ [true, false, false, false, false, false]; exact rfl; decide +kernel; exact rfl; intro R; refine ⟨_, (by repeat constructor), ?_⟩;
         (first | (apply EvW.fieldAddr0; exact rfl; exact FldC.eq)))
    (apply Par.quiet _ [true, false, false, false, false, false]; exact rfl; decide +kernel; exact rfl; intro R; refine ⟨_, (by repeat constructor), ?_⟩;
         (first | (apply EvW.load; exact rfl; exact ScalC.eq; (focus ((repeat constructor); done)); exact rfl)))
    apply Par.new _ [false, false, false, false, false, false] [false, true, false, false, false, false] [true, false, false, false, false, false]
    · exact rfl
    · exact rfl
    · decide +kernel
    · intro R
      refine ⟨_, _, _, (by repeat constructor), (by repeat constructor), (fun x => (by repeat constructor)), ?_⟩
      apply NewW.call (fun x => [.own 47 3 (x.2) g.secs.length (g.secs.flatMap secC)])
      · exact rfl
      · exact fun w1 S1 hS1 hs1 ho1 => cloneS_spec g.secs g.vS w1 S1 hS1 (hs1 _ hsec) hnS
      · exact fun w => Try.call24 _ w
      · (focus ((repeat constructor); done))
      · rintro _ _ rfl; exact ⟨(0, _), rfl, rfl⟩
      · exact fun x _ h => TakeT.st (by (focus ((repeat (first | exact TakeT.tail | apply TakeT.cons | exact Take.head | apply Take.tail | apply TakeT.drop)); done))) h
    (apply Par.quiet _ [true, false, false, false, false, false]; exact rfl; decide +kernel; exact rfl; intro R; refine ⟨_, (by repeat constructor), ?_⟩;
         (first | (apply EvW.fieldAddr0; exact rfl; exact FldC.eq)))
    (apply Par.quiet _ [true, false, false, false, false, false]; exact rfl; decide +kernel; exact rfl; intro R; refine ⟨_, (by repeat constructor), ?_⟩;
         (first | (apply EvW.load; exact rfl; exact ScalC.eq; (focus ((repeat constructor); done)); exact rfl)))
    apply Par.new _ [false, false, false, false, false, false] [false, false, true, false, false, false] [true, true, false, false, false, false]
    · exact rfl
    · exact rfl
    · decide +kernel
    · intro R
      refine ⟨_, _, _, (by repeat constructor), (by repeat constructor), (fun x => (by repeat constructor)), ?_⟩
      apply NewW.call (fun x => [.own 3 1 (x.2) g.crs.length (g.crs.map i64)])
      · exact rfl
      · exact fun w1 S1 hS1 hs1 ho1 => cloneI_spec g.crs g.vC w1 S1 hS1 (hs1 _ hcrs) hnC
      · exact fun w => Try.call25 _ w
      · (focus ((repeat constructor); done))
      · rintro _ _ rfl; exact ⟨(0, _), rfl, rfl⟩
      · exact fun x _ h => TakeT.st (by (focus ((repeat (first | exact TakeT.tail | apply TakeT.cons | exact Take.head | apply Take.tail | apply TakeT.drop)); done))) h
    (apply Par.quiet _ [true, false, false, false, false, false]; exact rfl; decide +kernel; exact rfl; intro R; refine ⟨_, (by repeat constructor), ?_⟩;
         (first | (apply EvW.fieldAddr0; exact rfl; exact FldC.eq)))
    (apply Par.quiet _ [true, false, false, false, false, false]; exact rfl; decide +kernel; exact rfl; intro R; refine ⟨_, (by repeat constructor), ?_⟩;
         (first | (apply EvW.load; exact rfl; exact ScalC.eq; (focus ((repeat constructor); done)); exact rfl)))
    apply Par.new _ [false, false, false, false, false, false] [false, false, false, true, false, false] [true, true, true, false, false, false]
    · exact rfl
    · exact rfl
    · decide +kernel
    · intro R
      refine ⟨_, _, _, (by repeat constructor), (by repeat constructor), (fun x => (by repeat constructor)), ?_⟩
      apply NewW.call (fun x => [.own 70 2 (x.2) g.sigs.length (g.sigs.flatMap sigC)])
      · exact rfl
      · exact fun w1 S1 hS1 hs1 ho1 => cloneG_spec g.sigs g.vG w1 S1 hS1 (hs1 _ hsig) hnG
      · exact fun w => Try.call26 _ w
      · (focus ((repeat constructor); done))
      · rintro _ _ rfl; exact ⟨(0, _), rfl, rfl⟩
      · exact fun x _ h => TakeT.st (by (focus ((repeat (first | exact TakeT.tail | apply TakeT.cons | exact Take.head | apply Take.tail | apply TakeT.drop)); done))) h
    (apply Par.quiet _ [true, false, false, false, false, false]; exact rfl; decide +kernel; exact rfl; intro R; refine ⟨_, (by repeat constructor), ?_⟩;
         (first | (apply EvW.fieldAddr0; exact rfl; exact FldC.eq)))
    (apply Par.quiet _ [true, false, false, false, false, false]; exact rfl; decide +kernel; exact rfl; intro R; refine ⟨_, (by repeat constructor), ?_⟩;
         (first | (apply EvW.loadAgg; exact rfl; exact AggC.eq; exact SzC.eq; (focus ((repeat constructor); done)); (focus ((repeat (first | exact SubL.nil | apply SubL.cons | apply SubL.succ)); done)))))
    apply Par.quiet _ [true, true, true, true, false, false]
    · exact rfl
    · decide +kernel
    · exact rfl
    · intro R
      refine ⟨_, (by repeat constructor), ?_⟩
      (apply EvW.slOwn ((c 2).2); (focus ((repeat constructor); done)); intro h2 _; apply EvW.slOwn ((c 5).2); (focus ((repeat constructor); done)); intro h5 _; apply EvW.slOwn ((c 8).2); (focus ((repeat constructor); done)); intro h8 _; apply EvW.build; exact PlC.eq; exact ZvC.eq; exact rfl; exact rfl; (focus ((repeat (first | exact Fills.nil | (apply Fills.cons; exact rfl; (first | assumption | exact rfl); exact rfl) | exact SetMany.nil | apply SetMany.cons | apply SetMany.succ)); done)))
    (apply Par.new _ [false, false, false, false, false, false] [false, false, false, false, true, false] [true, false, false, false, false, false]; exact rfl; exact rfl; decide +kernel; intro R; refine ⟨_, _, _, (by repeat constructor), (by repeat constructor), (fun x => (by repeat constructor)), ?_⟩; (apply NewW.alloc; exact ZvC.eq; exact rfl; exact fun _ => rfl))
    apply Par.eff _ [false, false, false, false, true, false] [false, false, false, false, false, true] [true, true, true, true, false, false]
    · exact rfl
    · exact rfl
    · decide +kernel
    · intro R
      refine ⟨_, _, _, (by repeat constructor), (by repeat constructor), (by repeat constructor), ?_⟩
      (apply EffW.slOwn ((c 2).2); (focus ((repeat constructor); done)); intro _ h2; apply EffW.slOwn ((c 5).2); (focus ((repeat constructor); done)); intro _ h5; apply EffW.slOwn ((c 8).2); (focus ((repeat constructor); done)); intro _ h8; (apply EffW.store; exact rfl; exact rfl; exact rfl; exact SzC.eq; (simp [h2, h5, h8]; exact ⟨rfl, rfl, rfl, rfl, rfl⟩); (focus ((repeat constructor); done))))
    exact Par.nil
  · repeat (first | exact AllN.nil | (apply AllN.cons; (intro c x; (repeat (first | exact IndA.nil | (apply IndA.skip; decide +kernel) | apply IndA.same))))) 
  · repeat (first | exact AllN.nil | (apply AllN.cons; (intro c x; (repeat (first | exact IndT.nil | (apply IndT.skip; decide +kernel) | apply IndT.same))))) 
  · exact fun _ => rfl
  intro c
  refine ⟨_, (by repeat constructor), ?_⟩
  apply WE.writ
  · (focus ((repeat (first | exact Writ.nil | apply Writ.some | apply Writ.none)); done))
  generalize (c 12).1 = b12
  generalize (c 2).2 = vs
  generalize (c 8).2 = vg
  generalize (c 5).2 = vr
  repeat first
    | (apply WL.q; exact rfl; exact rfl; exact rfl; (first | (apply EvW.loadAgg; exact rfl; exact AggC.eq; exact SzC.eq; (focus ((repeat constructor); done)); (focus ((repeat (first | exact SubL.nil | apply SubL.cons | apply SubL.succ)); done))) | (apply EvW.build; exact PlC.eq; exact ZvC.eq; exact rfl; exact rfl; (focus ((repeat (first | exact Fills.nil | (apply Fills.cons; exact rfl; (first | assumption | exact rfl); exact rfl) | exact SetMany.nil | apply SetMany.cons | apply SetMany.succ)); done)))))
    | refine WC.seq ?_ | refine WC.region ?_ | refine WE.next ?_
  try refine WL.wanted rfl rfl rfl ?_
  (apply WL.box; exact rfl; exact rfl; exact rfl; intro mb)
  repeat first
    | (apply WL.q; exact rfl; exact rfl; exact rfl; (first | (apply EvW.move; exact rfl) | (apply EvW.assign; exact rfl)))
    | refine WC.seq ?_ | refine WC.region ?_ | refine WL.nil ?_ | refine WE.next ?_ | refine WC.block ?_
  refine WC.noneL ?_
  refine WC.ownNil 74 1 ?_
  refine WC.loopK (σ := Nat × Value × List Value) [1, 3, 4] (fun s => [(21, i64 s.1)]) (fun s => [.blk q0 (cfgC g).toArray 30, .blk b12 #[vs, (.slice none 0 0), vg, vr, (.slice none 0 0), i64 g.age, i64 g.brake, i64 g.hold, i64 g.budget] 30, .own 47 3 vs g.secs.length (g.secs.flatMap secC), .own 70 2 vg g.sigs.length (g.sigs.flatMap sigC), .own 3 1 vr g.crs.length (g.crs.map i64), .blk mb #[vs, (.slice none 0 0), vg, vr, (.slice none 0 0), i64 g.age, i64 g.brake, i64 g.hold, i64 g.budget, s.2.1] 73, .own 74 1 s.2.1 s.1 ((vsOf g s.2.2).map vPtr), sepL ((vsOf g s.2.2).map voiceH)]) (fun s => s.1 ≤ 4 ∧ s.2.2.length = s.1) (fun s => 4 - s.1) (0, .slice none 0 0, []) (by (focus ((repeat (first | exact Pick.nil | (apply Pick.cons; exact rfl))); done))) (by (focus ((repeat (first | exact trivial | (refine ⟨rfl, ?_⟩))); done))) (fun _ h => h.keep (by repeat constructor)) ⟨Nat.zero_le _, rfl⟩ (fun s hs => ?_)
  obtain ⟨i, vv, ps⟩ := s
  simp only [List.cons_append, List.nil_append] at hs ⊢
  obtain ⟨hi, hl⟩ := hs
  subst hl
  by_cases hlt : ((ps.length : Nat) : Int) < 4
  · repeat first
      | (apply WL.q; exact rfl; exact rfl; exact rfl; (first | (apply EvW.move; exact rfl) | (apply EvW.assign; exact rfl) | (apply EvW.cmpT; exact rfl; exact rfl; exact rfl; omega)))
      | refine WC.seq ?_ | refine WC.region ?_ | refine WL.nil ?_ | refine WE.next ?_ | refine WC.block ?_ | refine WC.skip ?_ | refine WC.condT rfl ?_
    refine WC.ownNil 3 1 ?_
    refine WC.ownNil 3 1 ?_
    refine WC.ownNil 3 1 ?_
    refine WC.ownNil 3 1 ?_
    repeat refine WC.seq ?_
    refine WC.keep (xs := [.blk q0 (cfgC g).toArray 30, .blk b12 #[vs, (.slice none 0 0), vg, vr, (.slice none 0 0), i64 g.age, i64 g.brake, i64 g.hold, i64 g.budget] 30, .own 47 3 vs g.secs.length (g.secs.flatMap secC), .own 70 2 vg g.sigs.length (g.sigs.flatMap sigC), .own 3 1 vr g.crs.length (g.crs.map i64), .blk mb #[vs, (.slice none 0 0), vg, vr, (.slice none 0 0), i64 g.age, i64 g.brake, i64 g.hold, i64 g.budget, vv] 73, .own 74 1 vv ps.length ((vsOf g ps).map vPtr), .own 3 1 (.slice none 0 0) 0 [], .own 3 1 (.slice none 0 0) 0 [], .own 3 1 (.slice none 0 0) 0 [], .own 3 1 (.slice none 0 0) 0 [], sepL ((vsOf g ps).map voiceH)]) (by repeat constructor) ?_
    apply WC.par _ (fun c : Ch => [.blk q0 (cfgC g).toArray 30, .blk b12 #[vs, (.slice none 0 0), vg, vr, (.slice none 0 0), i64 g.age, i64 g.brake, i64 g.hold, i64 g.budget] 30, .own 47 3 vs g.secs.length (g.secs.flatMap secC), .own 70 2 vg g.sigs.length (g.sigs.flatMap sigC), .own 3 1 vr g.crs.length (g.crs.map i64), .blk mb #[vs, (.slice none 0 0), vg, vr, (.slice none 0 0), i64 g.age, i64 g.brake, i64 g.hold, i64 g.budget, vv] 73, .blk mb #[vs, (.slice none 0 0), vg, vr, (.slice none 0 0), i64 g.age, i64 g.brake, i64 g.hold, i64 g.budget, (c 16).2] 73, .own 74 1 vv ps.length ((vsOf g ps).map vPtr), .blk (c 15).1 #[ptr (c 14).1 0] 74, .own 74 1 ((c 16).2) (ps.length + 1) ((vsOf g ps).map vPtr ++ [ptr (c 14).1 0]), .blk (c 9).1 #[i64 ((Rcv.new (ps.length : Int) g.age)).last, i64 ((Rcv.new (ps.length : Int) g.age)).lost, i64 ((Rcv.new (ps.length : Int) g.age)).num, i64 ((Rcv.new (ps.length : Int) g.age)).peer, i64 ((Rcv.new (ps.length : Int) g.age)).age] 85, .own 3 1 ((cA (c 12).2 0)) ((g.lS ps.length)).length (((g.lS ps.length)).map i64), .own 3 1 ((cA (c 12).2 1)) ((g.lP ps.length)).length (((g.lP ps.length)).map i64), .own 3 1 ((cA (c 12).2 2)) ((g.lC ps.length)).length (((g.lC ps.length)).map i64), .own 3 1 ((cA (c 12).2 3)) ((g.lG ps.length)).length (((g.lG ps.length)).map i64), .own 3 1 (.slice none 0 0) 0 [], .own 3 1 (.slice none 0 0) 0 [], .own 3 1 (.slice none 0 0) 0 [], .own 3 1 (.slice none 0 0) 0 [], .blk (c 14).1 #[ptr (c 9).1 0, cA (c 12).2 0, cA (c 12).2 1, cA (c 12).2 2, cA (c 12).2 3, (.slice none 0 0), (.slice none 0 0), (.slice none 0 0), (.slice none 0 0), i64 (-1)] 78, sepL ((vsOf g ps).map voiceH)]) [none, none, none, none, none, none, some 19, none, some 15, some 16, some 9, some 12, some 12, some 12, some 12, none, none, none, none, some 14, none] [none, none, none, none, none, some 19, none, some 16, some 16, none, none, none, none, none, none, none, none, none, none, none, none] [(9, fun x => ptr x.1 0), (12, fun x => .agg #[cA x.2 0, cA x.2 1, cA x.2 2, cA x.2 3]), (14, fun x => ptr x.1 0), (15, fun x => .slice (some ⟨x.1, 0, none⟩) 1 1), (16, fun x => x.2)] Try.mixed
    · (focus ((repeat (first | exact Restr.nil | (apply Restr.keep; exact rfl; exact rfl) | (apply Restr.drop; exact rfl))); done))
    · intro c; exact (by repeat constructor)
    · exact rfl
    · decide +kernel
    · decide +kernel
    · intro c
      (apply Par.quiet _ [true, true, true, true, true, true, false, false, false, false, false, false, false, false, false, true, true, true, true, false, true]; exact rfl; decide +kernel; exact rfl; intro R; refine ⟨_, (by repeat constructor), ?_⟩;
           (first | (apply EvW.move; exact rfl)))
      (apply Par.quiet _ [true, true, true, true, true, true, false, true, false, false, false, false, false, false, false, true, true, true, true, false, true]; exact rfl; decide +kernel; exact rfl; intro R; refine ⟨_, (by repeat constructor), ?_⟩;
           (first | (apply EvW.move; exact rfl)))
      (apply Par.quiet _ [true, true, true, true, true, true, false, true, false, false, false, false, false, false, false, true, true, true, true, false, true]; exact rfl; decide +kernel; exact rfl; intro R; refine ⟨_, (by repeat constructor), ?_⟩;
           (first | (apply EvW.nilPtr; exact rfl)))
      (apply Par.quiet _ [true, true, true, true, true, true, false, true, false, false, false, false, false, false, false, true, true, true, true, false, true]; exact rfl; decide +kernel; exact rfl; intro R; refine ⟨_, (by repeat constructor), ?_⟩;
           (first | (apply EvW.fieldAddr0; exact rfl; exact FldC.eq)))
      (apply Par.quiet _ [true, true, true, true, true, true, false, true, false, false, false, false, false, false, false, true, true, true, true, false, true]; exact rfl; decide +kernel; exact rfl; intro R; refine ⟨_, (by repeat constructor), ?_⟩;
           (first | (apply EvW.load; exact rfl; exact ScalC.eq; (focus ((repeat constructor); done)); exact rfl)))
      (apply Par.quiet _ [true, true, true, true, true, true, false, true, false, false, false, false, false, false, false, true, true, true, true, false, true]; exact rfl; decide +kernel; exact rfl; intro R; refine ⟨_, (by repeat constructor), ?_⟩;
           (first | (apply EvW.move; exact rfl)))
      (apply Par.quiet _ [true, true, true, true, true, true, false, true, false, false, false, false, false, false, false, true, true, true, true, false, true]; exact rfl; decide +kernel; exact rfl; intro R; refine ⟨_, (by repeat constructor), ?_⟩;
           (first | (apply EvW.fieldAddr0; exact rfl; exact FldC.eq)))
      (apply Par.quiet _ [true, true, true, true, true, true, false, true, false, false, false, false, false, false, false, true, true, true, true, false, true]; exact rfl; decide +kernel; exact rfl; intro R; refine ⟨_, (by repeat constructor), ?_⟩;
           (first | (apply EvW.fieldAddr; exact rfl; exact FldC.eq)))
      (apply Par.quiet _ [true, true, true, true, true, true, false, true, false, false, false, false, false, false, false, true, true, true, true, false, true]; exact rfl; decide +kernel; exact rfl; intro R; refine ⟨_, (by repeat constructor), ?_⟩;
           (first | (apply EvW.load; exact rfl; exact ScalC.eq; (focus ((repeat constructor); done)); exact rfl)))
      apply Par.new _ [false, false, false, false, false, false, false, false, false, false, false, false, false, false, false, false, false, false, false, false, false] [false, false, false, false, false, false, false, false, false, false, true, false, false, false, false, false, false, false, false, false, false] [true, true, true, true, true, true, false, true, false, false, false, false, false, false, false, true, true, true, true, false, true]
      · exact rfl
      · exact rfl
      · decide +kernel
      · intro R
        refine ⟨_, _, _, (by repeat constructor), (by repeat constructor), (fun x => (by repeat constructor)), ?_⟩
        apply NewW.call (fun x => [.blk x.1 #[i64 ((Rcv.new (ps.length : Int) g.age)).last, i64 ((Rcv.new (ps.length : Int) g.age)).lost, i64 ((Rcv.new (ps.length : Int) g.age)).num, i64 ((Rcv.new (ps.length : Int) g.age)).peer, i64 ((Rcv.new (ps.length : Int) g.age)).age] 85])
        · exact rfl
        · exact fun w1 S1 hS1 hs1 ho1 => newReceiver_spec (ps.length : Int) g.age w1 S1 hS1
        · exact fun w => Try.call27 _ w
        · (focus ((repeat constructor); done))
        · rintro _ _ ⟨b, rfl, rfl⟩; exact ⟨(b, .bool true), rfl, rfl⟩
        · exact fun x _ h => TakeT.st (by (focus ((repeat (first | exact TakeT.tail | apply TakeT.cons | exact Take.head | apply Take.tail | apply TakeT.drop)); done))) h
      (apply Par.quiet _ [true, true, true, true, true, true, false, true, false, false, false, false, false, false, false, true, true, true, true, false, true]; exact rfl; decide +kernel; exact rfl; intro R; refine ⟨_, (by repeat constructor), ?_⟩;
           (first | (apply EvW.loadAgg; exact rfl; exact AggC.eq; exact SzC.eq; (focus ((repeat constructor); done)); (focus ((repeat (first | exact SubL.nil | apply SubL.cons | apply SubL.succ)); done)))))
      (apply Par.quiet _ [true, true, true, true, true, true, false, true, false, false, false, false, false, false, false, true, true, true, true, false, true]; exact rfl; decide +kernel; exact rfl; intro R; refine ⟨_, (by repeat constructor), ?_⟩;
           (first | (apply EvW.move; exact rfl)))
      apply Par.new _ [false, false, false, false, false, false, false, false, false, false, false, false, false, false, false, false, false, false, false, false, false] [false, false, false, false, false, false, false, false, false, false, false, true, true, true, true, false, false, false, false, false, false] [true, true, true, true, true, true, false, true, false, false, true, false, false, false, false, true, true, true, true, false, true]
      · exact rfl
      · exact rfl
      · decide +kernel
      · intro R
        refine ⟨_, _, _, (by repeat constructor), (by repeat constructor), (fun x => (by repeat constructor)), ?_⟩
        apply NewW.callA ([]) (fun x => [.own 3 1 ((cA x.2 0)) ((g.lS ps.length)).length (((g.lS ps.length)).map i64), .own 3 1 ((cA x.2 1)) ((g.lP ps.length)).length (((g.lP ps.length)).map i64), .own 3 1 ((cA x.2 2)) ((g.lC ps.length)).length (((g.lC ps.length)).map i64), .own 3 1 ((cA x.2 3)) ((g.lG ps.length)).length (((g.lG ps.length)).map i64)])
        · exact rfl
        · exact fun w => Try.call28 _ w
        · (focus ((repeat constructor); done))
        · exact fun w1 S1 hS1 hs1 ho1 => ownShape_spec g vs vg vr (ps.length : Int) w1 S1 hS1 (ho1 (.own 47 3 vs g.secs.length (g.secs.flatMap secC)) _ (by repeat constructor)) (ho1 (.own 70 2 vg g.sigs.length (g.sigs.flatMap sigC)) _ (by repeat constructor)) (ho1 (.own 3 1 vr g.crs.length (g.crs.map i64)) _ (by repeat constructor)) h.nS h.nG h.nC
        · rintro _ _ ⟨x1, x2, x3, x4, rfl, rfl⟩; exact ⟨(0, .agg #[x1, x2, x3, x4]), rfl, rfl⟩
        · exact fun x _ h => TakeT.st (by (focus ((repeat (first | exact TakeT.tail | apply TakeT.cons | exact Take.head | apply Take.tail | apply TakeT.drop)); done))) h
      (apply Par.quiet _ [true, true, true, true, true, true, false, true, false, false, true, true, true, true, true, true, true, true, true, false, true]; exact rfl; decide +kernel; exact rfl; intro R; refine ⟨_, (by repeat constructor), ?_⟩;
           (first | (apply EvW.build; exact PlC.eq; exact ZvC.eq; exact rfl; exact rfl; (focus ((repeat (first | exact Fills.nil | (apply Fills.cons; exact rfl; (first | assumption | exact rfl); exact rfl) | exact SetMany.nil | apply SetMany.cons | apply SetMany.succ)); done)))))
      (apply Par.new _ [false, false, false, false, false, false, false, false, false, false, false, false, false, false, false, false, false, false, false, false, false] [false, false, false, false, false, false, false, false, false, false, false, false, false, false, false, false, false, false, false, true, false] [true, true, true, true, true, true, false, true, false, false, true, true, true, true, true, true, true, true, true, false, true]; exact rfl; exact rfl; decide +kernel; intro R; refine ⟨_, _, _, (by repeat constructor), (by repeat constructor), (fun x => (by repeat constructor)), ?_⟩; (apply NewW.box; exact rfl; exact rfl; exact fun _ => rfl))
      (apply Par.new _ [false, false, false, false, false, false, false, false, false, false, false, false, false, false, false, false, false, false, false, false, false] [false, false, false, false, false, false, false, false, true, false, false, false, false, false, false, false, false, false, false, false, false] [true, true, true, true, true, true, false, true, false, false, true, true, true, true, true, true, true, true, true, true, true]; exact rfl; exact rfl; decide +kernel; intro R; refine ⟨_, _, _, (by repeat constructor), (by repeat constructor), (fun x => (by repeat constructor)), ?_⟩; (apply NewW.buildSlice; exact UndC.eq; exact SzC.eq; exact ZvC.eq; exact rfl; exact rfl; exact rfl; (focus ((repeat (first | exact Flat.nil | (apply Flat.one; (first | exact rfl | assumption)) | (apply Flat.cons; exact rfl; exact rfl))); done)); exact rfl; exact rfl; exact fun _ => rfl))
      apply Par.new _ [false, false, false, false, false, false, false, true, true, false, false, false, false, false, false, false, false, false, false, false, false] [false, false, false, false, false, false, false, false, false, true, false, false, false, false, false, false, false, false, false, false, false] [true, true, true, true, true, true, false, false, false, false, true, true, true, true, true, true, true, true, true, true, true]
      · exact rfl
      · exact rfl
      · decide +kernel
      · intro R
        refine ⟨_, _, _, (by repeat constructor), (by repeat constructor), (fun x => (by repeat constructor)), ?_⟩
        (apply NewW.append; exact rfl; exact rfl; exact UndC.eq; exact SzC.eq; exact ByC.eq; exact ZvC.eq; exact rfl; (first | exact notInt_sl UndC.eq | exact notInt_st UndC.eq); exact rfl; (focus ((repeat constructor); done)))
        · exact adds_blk (by repeat constructor) rfl rfl
        · (omega)
        · exact fun _ _ h => TakeT.st (by (focus ((repeat (first | exact TakeT.tail | apply TakeT.cons | exact Take.head | apply Take.tail | apply TakeT.drop)); done))) h
      (apply Par.quiet _ [true, true, true, true, true, true, false, false, false, true, true, true, true, true, true, true, true, true, true, true, true]; exact rfl; decide +kernel; exact rfl; intro R; refine ⟨_, (by repeat constructor), ?_⟩;
           (first | (apply EvW.nilPtr; exact rfl)))
      (apply Par.quiet _ [true, true, true, true, true, true, false, false, false, true, true, true, true, true, true, true, true, true, true, true, true]; exact rfl; decide +kernel; exact rfl; intro R; refine ⟨_, (by repeat constructor), ?_⟩;
           (first | (apply EvW.fieldAddr0; exact rfl; exact FldC.eq)))
      apply Par.eff _ [false, false, false, false, false, true, false, false, false, false, false, false, false, false, false, false, false, false, false, false, false] [false, false, false, false, false, false, true, false, false, false, false, false, false, false, false, false, false, false, false, false, false] [true, true, true, true, true, false, false, false, false, true, true, true, true, true, true, true, true, true, true, true, true]
      · exact rfl
      · exact rfl
      · decide +kernel
      · intro R
        refine ⟨_, _, _, (by repeat constructor), (by repeat constructor), (by repeat constructor), ?_⟩
        (apply EffW.storeSl; exact rfl; exact rfl; (focus ((repeat constructor); done)); exact SzC.eq; (focus ((repeat constructor); done)))
      exact Par.nil
    · repeat (first | exact AllN.nil | (apply AllN.cons; (intro c x; (repeat (first | exact IndA.nil | (apply IndA.skip; decide +kernel) | apply IndA.same))))) 
    · repeat (first | exact AllN.nil | (apply AllN.cons; (intro c x; (repeat (first | exact IndT.nil | (apply IndT.skip; decide +kernel) | apply IndT.same))))) 
    · exact fun _ => rfl
    intro c
    refine ⟨_, (by repeat constructor), ?_⟩
    apply WE.writ
    · (focus ((repeat (first | exact Writ.nil | apply Writ.some | apply Writ.none)); done))
    generalize (c 9).1 = b9
    generalize (c 12).1 = b12
    generalize (c 14).1 = b14
    generalize (c 15).1 = b15
    generalize (c 12).2 = sv
    generalize (c 16).2 = vv2
    obtain ⟨p, hp⟩ : ∃ p, Value.agg #[ptr b14 0, ptr b9 0, sv] = p := ⟨_, rfl⟩
    have hpv : newV g ps.length (.agg #[ptr b14 0, ptr b9 0, sv]) = newV g ps.length p := by rw [hp]
    refine WE.pack (L := [.blk ((newV g ps.length (.agg #[ptr b14 0, ptr b9 0, sv]))).b #[ptr ((newV g ps.length (.agg #[ptr b14 0, ptr b9 0, sv]))).r 0, ((newV g ps.length (.agg #[ptr b14 0, ptr b9 0, sv]))).sh.a, ((newV g ps.length (.agg #[ptr b14 0, ptr b9 0, sv]))).sh.b, ((newV g ps.length (.agg #[ptr b14 0, ptr b9 0, sv]))).sh.y, ((newV g ps.length (.agg #[ptr b14 0, ptr b9 0, sv]))).sh.d, ((newV g ps.length (.agg #[ptr b14 0, ptr b9 0, sv]))).sd.a, ((newV g ps.length (.agg #[ptr b14 0, ptr b9 0, sv]))).sd.b, ((newV g ps.length (.agg #[ptr b14 0, ptr b9 0, sv]))).sd.y, ((newV g ps.length (.agg #[ptr b14 0, ptr b9 0, sv]))).sd.d, i64 ((newV g ps.length (.agg #[ptr b14 0, ptr b9 0, sv]))).stamp] 78, .blk b9 #[i64 ((Rcv.new (ps.length : Int) g.age)).last, i64 ((Rcv.new (ps.length : Int) g.age)).lost, i64 ((Rcv.new (ps.length : Int) g.age)).num, i64 ((Rcv.new (ps.length : Int) g.age)).peer, i64 ((Rcv.new (ps.length : Int) g.age)).age] 85, .own 3 1 ((cA sv 0)) ((g.lS ps.length)).length (((g.lS ps.length)).map i64), .own 3 1 ((cA sv 1)) ((g.lP ps.length)).length (((g.lP ps.length)).map i64), .own 3 1 ((cA sv 2)) ((g.lC ps.length)).length (((g.lC ps.length)).map i64), .own 3 1 ((cA sv 3)) ((g.lG ps.length)).length (((g.lG ps.length)).map i64), .own 3 1 (.slice none 0 0) 0 [], .own 3 1 (.slice none 0 0) 0 [], .own 3 1 (.slice none 0 0) 0 [], .own 3 1 (.slice none 0 0) 0 []]) (by repeat constructor) ?_
    refine WE.back (z := voiceH (newV g ps.length (.agg #[ptr b14 0, ptr b9 0, sv]))) (by repeat constructor) (take_map_last voiceH _ (vsOf g ps)) ?_
    rw [show (vsOf g ps).map vPtr ++ [ptr b14 0] = (vsOf g ps ++ [newV g ps.length (.agg #[ptr b14 0, ptr b9 0, sv])]).map vPtr from by rw [List.map_append]; rfl, hpv, ← vsOf_snoc]
    repeat first
      | (apply WL.q; exact rfl; exact rfl; exact rfl; (first | (apply EvW.move; exact rfl) | (apply EvW.arN; exact rfl; exact rfl; exact rfl; refine i64_in ?_ ?_ <;> omega)))
      | refine WC.region ?_ | refine WL.nil ?_ | refine WE.next ?_ | refine WE.out ?_
    exact WE.again (s := (ps.length, vv, ps)) ((ps.length + 1, vv2, ps ++ [p])) ⟨by simp only []; omega, by simp⟩ (by (focus ((repeat (first | exact trivial | (refine ⟨rfl, ?_⟩))); done))) (fun _ h => (by (try simp only []); exact h.keep (by repeat constructor))) (by (try simp only []); omega)
  · have hl4 : ps.length = 4 := by omega
    rw [vsOf_four g ps hl4, hl4]
    repeat first
      | (apply WL.q; exact rfl; exact rfl; exact rfl; (first | (apply EvW.move; exact rfl) | (apply EvW.assign; exact rfl) | (apply EvW.cmpF; exact rfl; exact rfl; exact rfl; omega)))
      | refine WC.seq ?_ | refine WC.region ?_ | refine WL.nil ?_ | refine WE.next ?_ | refine WC.exit ?_ | refine WE.pass ?_ | refine WE.hit ?_ | refine WC.condF rfl ?_ | refine WC.ret ?_
    refine WE.pack (L := [.blk mb #[vs, (.slice none 0 0), vg, vr, (.slice none 0 0), i64 g.age, i64 g.brake, i64 g.hold, i64 g.budget, vv] 73, .own 47 3 vs g.secs.length (g.secs.flatMap secC), .own 70 2 vg g.sigs.length (g.sigs.flatMap sigC), .own 3 1 vr g.crs.length (g.crs.map i64), .own 74 1 vv 4 ((([0, 1, 2, 3] : List Nat).map fun k => newV g k (cA (.agg ps.toArray) k)).map vPtr), sepL ((([0, 1, 2, 3] : List Nat).map fun k => newV g k (cA (.agg ps.toArray) k)).map voiceH)]) (by repeat constructor) ?_
    refine WE.keep (xs := [imgH (newI g (mb, .agg #[vs, vg, vr, vv, .agg ps.toArray]))]) (by repeat constructor) ?_
    refine WE.ret1 rfl rfl ?_
    exact ⟨(mb, .agg #[vs, vg, vr, vv, .agg ps.toArray]), rfl, rfl⟩
end Go.Proofs.Ytamofjpadnnppaa
namespace Go.Proofs.Ytamofjpadnnppaa
open Go.RowKit Go.BK
structure Q4.Few (q : Q4) : Prop where
  a : q.la.length ≤ 17592186044416
  b : q.lb.length ≤ 17592186044416
  y : q.ly.length ≤ 17592186044416
  d : q.ld.length ≤ 17592186044416
structure Voice.Few (v : Voice) : Prop where
  sh : v.sh.Few
  sd : v.sd.Few
theorem voice_seen {v : Voice} {w : World} {S : BSet} (h : Sees w S (voiceH v)) (hf : v.Few) : v.Seen w S :=
  ⟨h.part .head, h.part (.tail .head), ⟨(h.part (.tail (.tail .head))).own, (h.part (.tail (.tail (.tail .head)))).own, (h.part (.tail (.tail (.tail (.tail .head))))).own, (h.part (.tail (.tail (.tail (.tail (.tail .head)))))).own, hf.sh.a, hf.sh.b, hf.sh.y, hf.sh.d⟩,
    ⟨(h.part (.tail (.tail (.tail (.tail (.tail (.tail .head))))))).own, (h.part (.tail (.tail (.tail (.tail (.tail (.tail (.tail .head)))))))).own, (h.part (.tail (.tail (.tail (.tail (.tail (.tail (.tail (.tail .head))))))))).own, (h.part (.tail (.tail (.tail (.tail (.tail (.tail (.tail (.tail (.tail .head)))))))))).own, hf.sd.a, hf.sd.b, hf.sd.y, hf.sd.d⟩⟩
structure Img.Ok (x : Img) : Prop where
  len : x.vs.length = 4
  few : ∀ k, k < 4 → ((x.vs.getD k default)).Few
  small : x.c.Small
theorem img_seen {x : Img} {w : World} {S : BSet} (h : Sees w S (imgH x)) (hx : x.Ok) : x.Seen w S :=
  ⟨h.part .head, ⟨(h.part (.tail .head)).own, (h.part (.tail (.tail .head))).own, (h.part (.tail (.tail (.tail .head)))).own, Nat.le_trans hx.small.s (by decide), Nat.le_trans hx.small.g (by decide), Nat.le_trans hx.small.r (by decide)⟩, (h.part (.tail (.tail (.tail (.tail .head))))).own, hx.len, fun k hk => by
    have hv : Sees w S (sepL (x.vs.map voiceH)) := h.part (.tail (.tail (.tail (.tail (.tail .head)))))
    exact voice_seen (hv.part (take_at (take_map_at (by rw [hx.len]; exact hk)))) (hx.few k hk)⟩
abbrev Got := List Int × List Int × List Int × List Int
def Q4.of (sv : Value) (z : Got) : Q4 := ⟨cA sv 0, cA sv 1, cA sv 2, cA sv 3, z.1, z.2.1, z.2.2.1, z.2.2.2⟩
def Voice.got (v : Voice) (t : Rcv × List UInt8 × Int) (k : Int) (z : Got) (sv : Value) : Voice := if t.2.2 ≠ 0 then { v with rc := t.1 } else if k = 0 then { v with rc := t.1, sd := Q4.of sv z, stamp := t.1.last } else { v with rc := t.1 }
def tookE (oc : Int) (t : Rcv × List UInt8 × Int) (k : Int) : Int := if 0 ≤ oc ∧ oc < 4 then (if t.2.2 ≠ 0 then t.2.2 else k) else 20
def Img.took (x : Img) (oc : Int) (t : Rcv × List UInt8 × Int) (k : Int) (z : Got) (sv : Value) : Img := if 0 ≤ oc ∧ oc < 4 then { x with vs := x.vs.set oc.toNat (((x.vs.getD oc.toNat default)).got t k z sv) } else x
theorem ptr_set {x : Img} {i : Nat} {v : Voice} (h : i < x.vs.length) (hb : v.b = ((x.vs.getD i default)).b) : (x.vs.set i v).map vPtr = x.vs.map vPtr := by
  rw [List.map_set]
  apply List.ext_getElem?
  intro j
  rw [List.getElem?_set]
  split
  · rename_i e
    subst e
    rw [if_pos (by rw [List.length_map]; exact h), List.getElem?_map, getD_some (d := default) h]
    show some (ptr v.b 0) = some (ptr ((x.vs.getD i default)).b 0)
    rw [hb]
  · rfl
set_option maxHeartbeats 1000000 in
theorem takeI_spec (x : Img) (now oc : Int) (l : List UInt8) (y : Said) (e k : Int) (z : Got) (t : Rcv × List UInt8 × Int) (w : World) (S : BSet) (hS : (sepL [imgH x]).sat S w) (hx : x.Ok) (hl : l.length ≤ 140737488355328) (hw : now ≤ 9223372036854775807) (hr : readF l = (y, e)) (ht : takeF ((x.vs.getD oc.toNat default)).rc now (y, e) = t) (h0 : 0 ≤ ((x.vs.getD oc.toNat default)).rc.lost) (h1 : ((x.vs.getD oc.toNat default)).rc.lost ≤ 4611686018427387904) (hk : 0 ≤ oc ∧ oc < 4 → RS ((x.vs.getD oc.toNat default)).sh t.2.1 k z) (htl : t.2.1.length ≤ 140737488355328) :
    Tri Try.prog 9 #[ptr x.b 0, i64 now, i64 oc, str l] w S fun u A => ∃ sv : Value, u = i64 (tookE oc t k) ∧ A = [imgH (x.took oc t k z sv)] := by
  refine Tri.enter (l := [ptr x.b 0, i64 now, i64 oc, str l]) Try.func9 rfl Try.ntmps9 rfl [(0, ptr x.b 0), (1, i64 now), (2, i64 oc), (3, str l)] (subA rfl) hS ?_
  refine WC.unpack (L := [.blk (x).b #[(x).c.vS, (x).c.vJ, (x).c.vG, (x).c.vC, (x).c.vR, i64 (x).c.age, i64 (x).c.brake, i64 (x).c.hold, i64 (x).c.budget, (x).vv] 73, .own 47 3 ((x).c).vS ((x).c).secs.length (((x).c).secs.flatMap secC), .own 70 2 ((x).c).vG ((x).c).sigs.length (((x).c).sigs.flatMap sigC), .own 3 1 ((x).c).vC ((x).c).crs.length (((x).c).crs.map i64), .own 74 1 (x).vv 4 ((x).vs.map vPtr), sepL ((x).vs.map voiceH)]) (LR := [.blk (x).b #[(x).c.vS, (x).c.vJ, (x).c.vG, (x).c.vC, (x).c.vR, i64 (x).c.age, i64 (x).c.brake, i64 (x).c.hold, i64 (x).c.budget, (x).vv] 73, .own 47 3 ((x).c).vS ((x).c).secs.length (((x).c).secs.flatMap secC), .own 70 2 ((x).c).vG ((x).c).sigs.length (((x).c).sigs.flatMap sigC), .own 3 1 ((x).c).vC ((x).c).crs.length (((x).c).crs.map i64), .own 74 1 (x).vv 4 ((x).vs.map vPtr), sepL ((x).vs.map voiceH)]) .head rfl ?_
  by_cases g0 : 0 ≤ oc
  rotate_left
  · skip
    repeat first
      | (apply WL.q; exact rfl; exact rfl; exact rfl; (first | (apply EvW.move; exact rfl) | (apply EvW.assign; exact rfl) | (apply EvW.cmpT; exact rfl; exact rfl; exact rfl; omega) | (apply EvW.pickT; exact rfl; exact rfl)))
      | refine WC.seq ?_ | refine WC.region ?_ | refine WL.nil ?_ | refine WE.next ?_ | refine WC.condT rfl ?_ | refine WC.ret ?_ | refine WE.passRet ?_ | refine WL.unwanted rfl rfl rfl rfl ?_
    refine WE.pack (L := [.blk (x).b #[(x).c.vS, (x).c.vJ, (x).c.vG, (x).c.vC, (x).c.vR, i64 (x).c.age, i64 (x).c.brake, i64 (x).c.hold, i64 (x).c.budget, (x).vv] 73, .own 47 3 ((x).c).vS ((x).c).secs.length (((x).c).secs.flatMap secC), .own 70 2 ((x).c).vG ((x).c).sigs.length (((x).c).sigs.flatMap sigC), .own 3 1 ((x).c).vC ((x).c).crs.length (((x).c).crs.map i64), .own 74 1 (x).vv 4 ((x).vs.map vPtr), sepL ((x).vs.map voiceH)]) (by repeat constructor) ?_
    refine WE.keep (xs := [imgH x]) (by repeat constructor) ?_
    refine WE.ret1 rfl rfl ?_
    exact ⟨undef, by unfold tookE; rw [if_neg (fun h => g0 h.1)], by unfold Img.took; rw [if_neg (fun h => g0 h.1)]⟩
  by_cases g4 : oc < (4 : Nat)
  rotate_left
  · skip
    repeat first
      | (apply WL.q; exact rfl; exact rfl; exact rfl; (first | (apply EvW.move; exact rfl) | (apply EvW.assign; exact rfl) | (apply EvW.nilPtr; exact rfl) | (apply EvW.fieldAddr0; exact rfl; exact FldC.eq) | (apply EvW.load; exact rfl; exact ScalC.eq; (focus ((repeat constructor); done)); exact rfl) | (apply EvW.cmpT; exact rfl; exact rfl; exact rfl; omega) | (apply EvW.cmpF; exact rfl; exact rfl; exact rfl; omega) | (apply EvW.pickF; exact rfl; exact rfl) | (apply EvW.lenOwn; exact rfl; exact UndC.eq; (focus ((repeat constructor); done)))))
      | refine WC.seq ?_ | refine WC.region ?_ | refine WL.nil ?_ | refine WE.next ?_ | refine WC.condT rfl ?_ | refine WC.ret ?_ | refine WE.passRet ?_ | refine WL.wanted rfl rfl rfl ?_
    refine WE.pack (L := [.blk (x).b #[(x).c.vS, (x).c.vJ, (x).c.vG, (x).c.vC, (x).c.vR, i64 (x).c.age, i64 (x).c.brake, i64 (x).c.hold, i64 (x).c.budget, (x).vv] 73, .own 47 3 ((x).c).vS ((x).c).secs.length (((x).c).secs.flatMap secC), .own 70 2 ((x).c).vG ((x).c).sigs.length (((x).c).sigs.flatMap sigC), .own 3 1 ((x).c).vC ((x).c).crs.length (((x).c).crs.map i64), .own 74 1 (x).vv 4 ((x).vs.map vPtr), sepL ((x).vs.map voiceH)]) (by repeat constructor) ?_
    refine WE.keep (xs := [imgH x]) (by repeat constructor) ?_
    refine WE.ret1 rfl rfl ?_
    exact ⟨undef, by unfold tookE; rw [if_neg (fun h => g4 h.2)], by unfold Img.took; rw [if_neg (fun h => g4 h.2)]⟩
  replace hk := hk ⟨g0, g4⟩
  have hlt : oc.toNat < x.vs.length := by rw [hx.len]; omega
  have hat := Img.at (x := x) hlt
  have hout : (x.vs.map voiceH)[oc.toNat]? = some (voiceH ((x.vs.getD oc.toNat default))) := take_map_at hlt
  have hfew := hx.few oc.toNat (by omega)
  obtain ⟨v, hv⟩ : ∃ v, (x.vs.getD oc.toNat default) = v := ⟨_, rfl⟩
  rw [hv] at hat hout hfew ht h0 h1 hk
  repeat first
    | (apply WL.q; exact rfl; exact rfl; exact rfl; (first | (apply EvW.move; exact rfl) | (apply EvW.assign; exact rfl) | (apply EvW.nilPtr; exact rfl) | (apply EvW.fieldAddr0; exact rfl; exact FldC.eq) | (apply EvW.load; exact rfl; exact ScalC.eq; (focus ((repeat constructor); done)); exact rfl) | (apply EvW.cmpF; exact rfl; exact rfl; exact rfl; omega) | (apply EvW.pickF; exact rfl; exact rfl) | (apply EvW.lenOwn; exact rfl; exact UndC.eq; (focus ((repeat constructor); done))) | (apply EvW.idxOwn; exact rfl; exact rfl; exact UndC.eq; exact SzC.eq; (focus ((repeat constructor); done)); omega; omega)))
    | refine WC.seq ?_ | refine WC.region ?_ | refine WL.nil ?_ | refine WE.next ?_ | refine WC.skip ?_ | refine WC.condF rfl ?_ | refine WL.wanted rfl rfl rfl ?_
  try refine WL.wanted rfl rfl rfl ?_
  (apply WL.q; exact rfl; exact rfl; exact rfl; (apply EvW.ldOwn (i := oc.toNat) (off := 0) (q := ptr v.b 0); exact rfl; exact ScalC.eq; (focus ((repeat constructor); done)); exact hat))
  refine WL.out (by repeat constructor) (take_at hout) ?_
  refine WL.unpack (L := [.blk (v).b #[ptr (v).r 0, (v).sh.a, (v).sh.b, (v).sh.y, (v).sh.d, (v).sd.a, (v).sd.b, (v).sd.y, (v).sd.d, i64 (v).stamp] 78, .blk v.r #[i64 (v.rc).last, i64 (v.rc).lost, i64 (v.rc).num, i64 (v.rc).peer, i64 (v.rc).age] 85, .own 3 1 ((v.sh).a) ((v.sh).la).length (((v.sh).la).map i64), .own 3 1 ((v.sh).b) ((v.sh).lb).length (((v.sh).lb).map i64), .own 3 1 ((v.sh).y) ((v.sh).ly).length (((v.sh).ly).map i64), .own 3 1 ((v.sh).d) ((v.sh).ld).length (((v.sh).ld).map i64), .own 3 1 ((v.sd).a) ((v.sd).la).length (((v.sd).la).map i64), .own 3 1 ((v.sd).b) ((v.sd).lb).length (((v.sd).lb).map i64), .own 3 1 ((v.sd).y) ((v.sd).ly).length (((v.sd).ly).map i64), .own 3 1 ((v.sd).d) ((v.sd).ld).length (((v.sd).ld).map i64)]) (LR := [.blk (v).b #[ptr (v).r 0, (v).sh.a, (v).sh.b, (v).sh.y, (v).sh.d, (v).sd.a, (v).sd.b, (v).sd.y, (v).sd.d, i64 (v).stamp] 78, .blk v.r #[i64 (v.rc).last, i64 (v.rc).lost, i64 (v.rc).num, i64 (v.rc).peer, i64 (v.rc).age] 85, .own 3 1 ((v.sh).a) ((v.sh).la).length (((v.sh).la).map i64), .own 3 1 ((v.sh).b) ((v.sh).lb).length (((v.sh).lb).map i64), .own 3 1 ((v.sh).y) ((v.sh).ly).length (((v.sh).ly).map i64), .own 3 1 ((v.sh).d) ((v.sh).ld).length (((v.sh).ld).map i64), .own 3 1 ((v.sd).a) ((v.sd).la).length (((v.sd).la).map i64), .own 3 1 ((v.sd).b) ((v.sd).lb).length (((v.sd).lb).map i64), .own 3 1 ((v.sd).y) ((v.sd).ly).length (((v.sd).ly).map i64), .own 3 1 ((v.sd).d) ((v.sd).ld).length (((v.sd).ld).map i64), sepL (((x).vs.map voiceH).eraseIdx oc.toNat), .blk (x).b #[(x).c.vS, (x).c.vJ, (x).c.vG, (x).c.vC, (x).c.vR, i64 (x).c.age, i64 (x).c.brake, i64 (x).c.hold, i64 (x).c.budget, (x).vv] 73, .own 47 3 (x.c).vS (x.c).secs.length ((x.c).secs.flatMap secC), .own 70 2 (x.c).vG (x.c).sigs.length ((x.c).sigs.flatMap sigC), .own 3 1 (x.c).vC (x.c).crs.length ((x.c).crs.map i64), .own 74 1 (x).vv 4 ((x).vs.map vPtr)]) .head rfl ?_
  repeat first
    | (apply WL.q; exact rfl; exact rfl; exact rfl; (first | (apply EvW.move; exact rfl) | (apply EvW.assign; exact rfl) | (apply EvW.nilPtr; exact rfl) | (apply EvW.fieldAddr0; exact rfl; exact FldC.eq) | (apply EvW.load; exact rfl; exact ScalC.eq; (focus ((repeat constructor); done)); exact rfl)))
    | refine WC.seq ?_ | refine WC.region ?_ | refine WL.nil ?_ | refine WE.next ?_
  try refine WL.wanted rfl rfl rfl ?_
  apply WL.callA ([.blk v.r #[i64 (v.rc).last, i64 (v.rc).lost, i64 (v.rc).num, i64 (v.rc).peer, i64 (v.rc).age] 85])
  · exact rfl
  · exact rfl
  · exact fun w => Try.call29 _ w
  · (focus ((repeat constructor); done))
  · exact fun w1 S1 hS1 hs1 ho1 => ltake_spec v.r v.rc now l y e w1 S1 hS1 hl h0 h1 hw hr
  rintro _ _ ⟨rfl, rfl⟩
  first | refine WL.app4 ?_ | refine WL.app3 ?_ | refine WL.app2 ?_ | refine WL.app1 ?_ | refine WL.app0 ?_ | skip
  rw [ht]
  obtain ⟨rc, p, te⟩ := t
  dsimp only at hk htl ⊢
  by_cases hte : te = 0
  rotate_left
  · skip
    repeat first
      | (apply WL.q; exact rfl; exact rfl; exact rfl; (first | (apply EvW.move; exact rfl) | (apply EvW.assign; exact rfl) | (apply EvW.extract; exact rfl; exact rfl) | (apply EvW.cmpT; exact rfl; exact rfl; exact rfl; omega)))
      | refine WC.seq ?_ | refine WC.region ?_ | refine WL.nil ?_ | refine WE.next ?_ | refine WC.condT rfl ?_ | refine WC.ret ?_ | refine WE.passRet ?_
    refine WE.pack (L := [.blk ((Voice.mk v.b v.r rc v.sh v.sd v.stamp)).b #[ptr ((Voice.mk v.b v.r rc v.sh v.sd v.stamp)).r 0, ((Voice.mk v.b v.r rc v.sh v.sd v.stamp)).sh.a, ((Voice.mk v.b v.r rc v.sh v.sd v.stamp)).sh.b, ((Voice.mk v.b v.r rc v.sh v.sd v.stamp)).sh.y, ((Voice.mk v.b v.r rc v.sh v.sd v.stamp)).sh.d, ((Voice.mk v.b v.r rc v.sh v.sd v.stamp)).sd.a, ((Voice.mk v.b v.r rc v.sh v.sd v.stamp)).sd.b, ((Voice.mk v.b v.r rc v.sh v.sd v.stamp)).sd.y, ((Voice.mk v.b v.r rc v.sh v.sd v.stamp)).sd.d, i64 ((Voice.mk v.b v.r rc v.sh v.sd v.stamp)).stamp] 78, .blk v.r #[i64 (rc).last, i64 (rc).lost, i64 (rc).num, i64 (rc).peer, i64 (rc).age] 85, .own 3 1 ((v.sh).a) ((v.sh).la).length (((v.sh).la).map i64), .own 3 1 ((v.sh).b) ((v.sh).lb).length (((v.sh).lb).map i64), .own 3 1 ((v.sh).y) ((v.sh).ly).length (((v.sh).ly).map i64), .own 3 1 ((v.sh).d) ((v.sh).ld).length (((v.sh).ld).map i64), .own 3 1 ((v.sd).a) ((v.sd).la).length (((v.sd).la).map i64), .own 3 1 ((v.sd).b) ((v.sd).lb).length (((v.sd).lb).map i64), .own 3 1 ((v.sd).y) ((v.sd).ly).length (((v.sd).ly).map i64), .own 3 1 ((v.sd).d) ((v.sd).ld).length (((v.sd).ld).map i64)]) (by repeat constructor) ?_
    refine WE.back (L := (x.vs.set oc.toNat (Voice.mk v.b v.r rc v.sh v.sd v.stamp)).map voiceH) (z := voiceH (Voice.mk v.b v.r rc v.sh v.sd v.stamp)) (by repeat constructor) (take_map_set _ hlt) ?_
    have hps : (x.vs.set oc.toNat (Voice.mk v.b v.r rc v.sh v.sd v.stamp)).map vPtr = x.vs.map vPtr := ptr_set hlt (by rw [hv])
    rw [← hps]
    refine WE.pack (L := [.blk (x).b #[(x).c.vS, (x).c.vJ, (x).c.vG, (x).c.vC, (x).c.vR, i64 (x).c.age, i64 (x).c.brake, i64 (x).c.hold, i64 (x).c.budget, (x).vv] 73, .own 47 3 (x.c).vS (x.c).secs.length ((x.c).secs.flatMap secC), .own 70 2 (x.c).vG (x.c).sigs.length ((x.c).sigs.flatMap sigC), .own 3 1 (x.c).vC (x.c).crs.length ((x.c).crs.map i64), .own 74 1 x.vv 4 ((x.vs.set oc.toNat (Voice.mk v.b v.r rc v.sh v.sd v.stamp)).map vPtr), sepL ((x.vs.set oc.toNat (Voice.mk v.b v.r rc v.sh v.sd v.stamp)).map voiceH)]) (by repeat constructor) ?_
    refine WE.keep (xs := [imgH { x with vs := x.vs.set oc.toNat (Voice.mk v.b v.r rc v.sh v.sd v.stamp) }]) (by repeat constructor) ?_
    refine WE.ret1 rfl rfl ?_
    refine ⟨undef, ?_, ?_⟩
    · unfold tookE; rw [if_pos ⟨g0, g4⟩]; rw [if_pos hte]
    · unfold Img.took; rw [if_pos ⟨g0, g4⟩, hv]; unfold Voice.got; rw [if_pos hte]
  subst hte
  repeat first
    | (apply WL.q; exact rfl; exact rfl; exact rfl; (first | (apply EvW.move; exact rfl) | (apply EvW.assign; exact rfl) | (apply EvW.nilPtr; exact rfl) | (apply EvW.fieldAddr0; exact rfl; exact FldC.eq) | (apply EvW.extract; exact rfl; exact rfl) | (apply EvW.cmpF; exact rfl; exact rfl; exact rfl; omega) | (apply EvW.loadAgg; exact rfl; exact AggC.eq; exact SzC.eq; (focus ((repeat constructor); done)); (focus ((repeat (first | exact SubL.nil | apply SubL.cons | apply SubL.succ)); done)))))
    | refine WC.seq ?_ | refine WC.region ?_ | refine WL.nil ?_ | refine WE.next ?_ | refine WC.skip ?_ | refine WC.condF rfl ?_
  try refine WL.wanted rfl rfl rfl ?_
  apply WL.callA ([])
  · exact rfl
  · exact rfl
  · exact fun w => Try.call30 _ w
  · (focus ((repeat constructor); done))
  · exact fun w1 S1 hS1 hs1 ho1 => trs_spec v.sh p k z w1 S1 hS1 ⟨(ho1 (.own 3 1 (v.sh.a) (v.sh.la).length ((v.sh.la).map i64)) _ (by repeat constructor)).own, (ho1 (.own 3 1 (v.sh.b) (v.sh.lb).length ((v.sh.lb).map i64)) _ (by repeat constructor)).own, (ho1 (.own 3 1 (v.sh.y) (v.sh.ly).length ((v.sh.ly).map i64)) _ (by repeat constructor)).own, (ho1 (.own 3 1 (v.sh.d) (v.sh.ld).length ((v.sh.ld).map i64)) _ (by repeat constructor)).own, hfew.sh.a, hfew.sh.b, hfew.sh.y, hfew.sh.d⟩ htl hk
  rintro _ _ ⟨a, b, y2, d, rfl, rfl⟩
  first | refine WL.app4 ?_ | refine WL.app3 ?_ | refine WL.app2 ?_ | refine WL.app1 ?_ | refine WL.app0 ?_ | skip
  repeat first
    | (apply WL.q; exact rfl; exact rfl; exact rfl; (first | (apply EvW.move; exact rfl) | (apply EvW.extract; exact rfl; exact rfl)))
  try refine WL.wanted rfl rfl rfl ?_
  (apply WL.alloc; exact rfl; exact ZvC.eq; exact rfl; intro q)
  (first | refine WL.slOwn (v := a) (by repeat constructor) ?_ | refine WC.slOwn (v := a) (by repeat constructor) ?_)
  intro hc_a ho_a
  (first | refine WL.slOwn (v := b) (by repeat constructor) ?_ | refine WC.slOwn (v := b) (by repeat constructor) ?_)
  intro hc_b ho_b
  (first | refine WL.slOwn (v := y2) (by repeat constructor) ?_ | refine WC.slOwn (v := y2) (by repeat constructor) ?_)
  intro hc_y2 ho_y2
  (first | refine WL.slOwn (v := d) (by repeat constructor) ?_ | refine WC.slOwn (v := d) (by repeat constructor) ?_)
  intro hc_d ho_d
  have hall : ([a, b, y2, d] : List Value).all (·.oneCell') = true := by
    simp at ho_a ho_b ho_y2 ho_d
    simp [ho_a, ho_b, ho_y2, ho_d]
  clear hc_a hc_b hc_y2 hc_d ho_a ho_b ho_y2 ho_d
  by_cases hk0 : k = 0
  rotate_left
  · skip
    repeat first
      | (apply WL.q; exact rfl; exact rfl; exact rfl; (first | (apply EvW.move; exact rfl) | (apply EvW.assign; exact rfl) | (apply EvW.cmpF; exact rfl; exact rfl; exact rfl; omega)))
      | refine WC.seq ?_ | refine WC.region ?_ | refine WL.nil ?_ | refine WE.next ?_ | refine WC.skip ?_ | refine WC.condF rfl ?_ | refine WC.ret ?_ | (apply WL.store; exact rfl; exact rfl; (first | assumption | exact rfl); exact SzC.eq; (first | assumption | exact rfl); (focus ((repeat constructor); done)))
    refine WE.pack (L := [.blk ((Voice.mk v.b v.r rc v.sh v.sd v.stamp)).b #[ptr ((Voice.mk v.b v.r rc v.sh v.sd v.stamp)).r 0, ((Voice.mk v.b v.r rc v.sh v.sd v.stamp)).sh.a, ((Voice.mk v.b v.r rc v.sh v.sd v.stamp)).sh.b, ((Voice.mk v.b v.r rc v.sh v.sd v.stamp)).sh.y, ((Voice.mk v.b v.r rc v.sh v.sd v.stamp)).sh.d, ((Voice.mk v.b v.r rc v.sh v.sd v.stamp)).sd.a, ((Voice.mk v.b v.r rc v.sh v.sd v.stamp)).sd.b, ((Voice.mk v.b v.r rc v.sh v.sd v.stamp)).sd.y, ((Voice.mk v.b v.r rc v.sh v.sd v.stamp)).sd.d, i64 ((Voice.mk v.b v.r rc v.sh v.sd v.stamp)).stamp] 78, .blk v.r #[i64 (rc).last, i64 (rc).lost, i64 (rc).num, i64 (rc).peer, i64 (rc).age] 85, .own 3 1 ((v.sh).a) ((v.sh).la).length (((v.sh).la).map i64), .own 3 1 ((v.sh).b) ((v.sh).lb).length (((v.sh).lb).map i64), .own 3 1 ((v.sh).y) ((v.sh).ly).length (((v.sh).ly).map i64), .own 3 1 ((v.sh).d) ((v.sh).ld).length (((v.sh).ld).map i64), .own 3 1 ((v.sd).a) ((v.sd).la).length (((v.sd).la).map i64), .own 3 1 ((v.sd).b) ((v.sd).lb).length (((v.sd).lb).map i64), .own 3 1 ((v.sd).y) ((v.sd).ly).length (((v.sd).ly).map i64), .own 3 1 ((v.sd).d) ((v.sd).ld).length (((v.sd).ld).map i64)]) (by repeat constructor) ?_
    refine WE.back (L := (x.vs.set oc.toNat (Voice.mk v.b v.r rc v.sh v.sd v.stamp)).map voiceH) (z := voiceH (Voice.mk v.b v.r rc v.sh v.sd v.stamp)) (by repeat constructor) (take_map_set _ hlt) ?_
    have hps : (x.vs.set oc.toNat (Voice.mk v.b v.r rc v.sh v.sd v.stamp)).map vPtr = x.vs.map vPtr := ptr_set hlt (by rw [hv])
    rw [← hps]
    refine WE.pack (L := [.blk (x).b #[(x).c.vS, (x).c.vJ, (x).c.vG, (x).c.vC, (x).c.vR, i64 (x).c.age, i64 (x).c.brake, i64 (x).c.hold, i64 (x).c.budget, (x).vv] 73, .own 47 3 (x.c).vS (x.c).secs.length ((x.c).secs.flatMap secC), .own 70 2 (x.c).vG (x.c).sigs.length ((x.c).sigs.flatMap sigC), .own 3 1 (x.c).vC (x.c).crs.length ((x.c).crs.map i64), .own 74 1 x.vv 4 ((x.vs.set oc.toNat (Voice.mk v.b v.r rc v.sh v.sd v.stamp)).map vPtr), sepL ((x.vs.set oc.toNat (Voice.mk v.b v.r rc v.sh v.sd v.stamp)).map voiceH)]) (by repeat constructor) ?_
    refine WE.keep (xs := [imgH { x with vs := x.vs.set oc.toNat (Voice.mk v.b v.r rc v.sh v.sd v.stamp) }]) (by repeat constructor) ?_
    refine WE.ret1 rfl rfl ?_
    refine ⟨undef, ?_, ?_⟩
    · unfold tookE; rw [if_pos ⟨g0, g4⟩]; rw [if_neg (fun h => h rfl)]
    · unfold Img.took; rw [if_pos ⟨g0, g4⟩, hv]; unfold Voice.got; rw [if_neg (fun h => h rfl), if_neg hk0]
  subst hk0
  repeat first
    | (apply WL.q; exact rfl; exact rfl; exact rfl; (first | (apply EvW.move; exact rfl) | (apply EvW.assign; exact rfl) | (apply EvW.cmpT; exact rfl; exact rfl; exact rfl; omega)))
    | refine WC.seq ?_ | refine WC.region ?_ | refine WL.nil ?_ | refine WE.next ?_ | refine WC.condT rfl ?_ | (apply WL.store; exact rfl; exact rfl; (first | assumption | exact rfl); exact SzC.eq; (first | assumption | exact rfl); (focus ((repeat constructor); done)))
  repeat refine WC.seq ?_
  refine WC.keep (xs := [.blk (v).b #[ptr (v).r 0, (v).sh.a, (v).sh.b, (v).sh.y, (v).sh.d, (v).sd.a, (v).sd.b, (v).sd.y, (v).sd.d, i64 (v).stamp] 78, .blk v.r #[i64 (rc).last, i64 (rc).lost, i64 (rc).num, i64 (rc).peer, i64 (rc).age] 85, .own 3 1 ((v.sh).a) ((v.sh).la).length (((v.sh).la).map i64), .own 3 1 ((v.sh).b) ((v.sh).lb).length (((v.sh).lb).map i64), .own 3 1 ((v.sh).y) ((v.sh).ly).length (((v.sh).ly).map i64), .own 3 1 ((v.sh).d) ((v.sh).ld).length (((v.sh).ld).map i64), .blk q #[a, b, y2, d] 54, .own 3 1 (a) (z.1).length ((z.1).map i64), .own 3 1 (b) (z.2.1).length ((z.2.1).map i64), .own 3 1 (y2) (z.2.2.1).length ((z.2.2.1).map i64), .own 3 1 (d) (z.2.2.2).length ((z.2.2.2).map i64), .blk (x).b #[(x).c.vS, (x).c.vJ, (x).c.vG, (x).c.vC, (x).c.vR, i64 (x).c.age, i64 (x).c.brake, i64 (x).c.hold, i64 (x).c.budget, (x).vv] 73, .own 47 3 ((x).c).vS ((x).c).secs.length (((x).c).secs.flatMap secC), .own 70 2 ((x).c).vG ((x).c).sigs.length (((x).c).sigs.flatMap sigC), .own 3 1 ((x).c).vC ((x).c).crs.length (((x).c).crs.map i64), .own 74 1 (x).vv 4 ((x).vs.map vPtr), sepL (((x).vs.map voiceH).eraseIdx oc.toNat)]) (by repeat constructor) ?_
  apply WC.par _ (fun c : Ch => [.blk (v).b #[ptr (v).r 0, (v).sh.a, (v).sh.b, (v).sh.y, (v).sh.d, (v).sd.a, (v).sd.b, (v).sd.y, (v).sd.d, i64 (v).stamp] 78, .blk ((Voice.mk v.b v.r rc v.sh (Q4.mk a b y2 d z.1 z.2.1 z.2.2.1 z.2.2.2) v.stamp)).b #[ptr ((Voice.mk v.b v.r rc v.sh (Q4.mk a b y2 d z.1 z.2.1 z.2.2.1 z.2.2.2) v.stamp)).r 0, ((Voice.mk v.b v.r rc v.sh (Q4.mk a b y2 d z.1 z.2.1 z.2.2.1 z.2.2.2) v.stamp)).sh.a, ((Voice.mk v.b v.r rc v.sh (Q4.mk a b y2 d z.1 z.2.1 z.2.2.1 z.2.2.2) v.stamp)).sh.b, ((Voice.mk v.b v.r rc v.sh (Q4.mk a b y2 d z.1 z.2.1 z.2.2.1 z.2.2.2) v.stamp)).sh.y, ((Voice.mk v.b v.r rc v.sh (Q4.mk a b y2 d z.1 z.2.1 z.2.2.1 z.2.2.2) v.stamp)).sh.d, ((Voice.mk v.b v.r rc v.sh (Q4.mk a b y2 d z.1 z.2.1 z.2.2.1 z.2.2.2) v.stamp)).sd.a, ((Voice.mk v.b v.r rc v.sh (Q4.mk a b y2 d z.1 z.2.1 z.2.2.1 z.2.2.2) v.stamp)).sd.b, ((Voice.mk v.b v.r rc v.sh (Q4.mk a b y2 d z.1 z.2.1 z.2.2.1 z.2.2.2) v.stamp)).sd.y, ((Voice.mk v.b v.r rc v.sh (Q4.mk a b y2 d z.1 z.2.1 z.2.2.1 z.2.2.2) v.stamp)).sd.d, i64 ((Voice.mk v.b v.r rc v.sh (Q4.mk a b y2 d z.1 z.2.1 z.2.2.1 z.2.2.2) v.stamp)).stamp] 78, .blk ((Voice.mk v.b v.r rc v.sh (Q4.mk a b y2 d z.1 z.2.1 z.2.2.1 z.2.2.2) rc.last)).b #[ptr ((Voice.mk v.b v.r rc v.sh (Q4.mk a b y2 d z.1 z.2.1 z.2.2.1 z.2.2.2) rc.last)).r 0, ((Voice.mk v.b v.r rc v.sh (Q4.mk a b y2 d z.1 z.2.1 z.2.2.1 z.2.2.2) rc.last)).sh.a, ((Voice.mk v.b v.r rc v.sh (Q4.mk a b y2 d z.1 z.2.1 z.2.2.1 z.2.2.2) rc.last)).sh.b, ((Voice.mk v.b v.r rc v.sh (Q4.mk a b y2 d z.1 z.2.1 z.2.2.1 z.2.2.2) rc.last)).sh.y, ((Voice.mk v.b v.r rc v.sh (Q4.mk a b y2 d z.1 z.2.1 z.2.2.1 z.2.2.2) rc.last)).sh.d, ((Voice.mk v.b v.r rc v.sh (Q4.mk a b y2 d z.1 z.2.1 z.2.2.1 z.2.2.2) rc.last)).sd.a, ((Voice.mk v.b v.r rc v.sh (Q4.mk a b y2 d z.1 z.2.1 z.2.2.1 z.2.2.2) rc.last)).sd.b, ((Voice.mk v.b v.r rc v.sh (Q4.mk a b y2 d z.1 z.2.1 z.2.2.1 z.2.2.2) rc.last)).sd.y, ((Voice.mk v.b v.r rc v.sh (Q4.mk a b y2 d z.1 z.2.1 z.2.2.1 z.2.2.2) rc.last)).sd.d, i64 ((Voice.mk v.b v.r rc v.sh (Q4.mk a b y2 d z.1 z.2.1 z.2.2.1 z.2.2.2) rc.last)).stamp] 78, .blk v.r #[i64 (rc).last, i64 (rc).lost, i64 (rc).num, i64 (rc).peer, i64 (rc).age] 85, .blk v.r #[i64 (rc).last, i64 (rc).lost, i64 (rc).num, i64 (rc).peer, i64 (rc).age] 85, .own 3 1 ((v.sh).a) ((v.sh).la).length (((v.sh).la).map i64), .own 3 1 ((v.sh).b) ((v.sh).lb).length (((v.sh).lb).map i64), .own 3 1 ((v.sh).y) ((v.sh).ly).length (((v.sh).ly).map i64), .own 3 1 ((v.sh).d) ((v.sh).ld).length (((v.sh).ld).map i64), .blk q #[a, b, y2, d] 54, .own 3 1 (a) (z.1).length ((z.1).map i64), .own 3 1 (b) (z.2.1).length ((z.2.1).map i64), .own 3 1 (y2) (z.2.2.1).length ((z.2.2.1).map i64), .own 3 1 (d) (z.2.2.2).length ((z.2.2.2).map i64), .blk (x).b #[(x).c.vS, (x).c.vJ, (x).c.vG, (x).c.vC, (x).c.vR, i64 (x).c.age, i64 (x).c.brake, i64 (x).c.hold, i64 (x).c.budget, (x).vv] 73, .own 47 3 ((x).c).vS ((x).c).secs.length (((x).c).secs.flatMap secC), .own 70 2 ((x).c).vG ((x).c).sigs.length (((x).c).sigs.flatMap sigC), .own 3 1 ((x).c).vC ((x).c).crs.length (((x).c).crs.map i64), .own 74 1 (x).vv 4 ((x).vs.map vPtr), sepL (((x).vs.map voiceH).eraseIdx oc.toNat)]) [none, some 12, some 15, none, some 9, none, none, none, none, none, none, none, none, none, none, none, none, none, none, none] [some 12, some 15, none, some 9, none, none, none, none, none, none, none, none, none, none, none, none, none, none, none, none] [] Try.mixed
  · (focus ((repeat (first | exact Restr.nil | (apply Restr.keep; exact rfl; exact rfl) | (apply Restr.drop; exact rfl))); done))
  · intro c; exact (by repeat constructor)
  · exact rfl
  · decide +kernel
  · decide +kernel
  · intro c
    (apply Par.quiet _ [true, false, false, false, false, true, true, true, true, true, true, true, true, true, true, true, true, true, true, true]; exact rfl; decide +kernel; exact rfl; intro R; refine ⟨_, (by repeat constructor), ?_⟩;
         (first | (apply EvW.move; exact rfl)))
    (apply Par.quiet _ [false, false, false, false, false, true, true, true, true, true, true, true, true, true, true, true, true, true, true, true]; exact rfl; decide +kernel; exact rfl; intro R; refine ⟨_, (by repeat constructor), ?_⟩;
         (first | (apply EvW.move; exact rfl)))
    (apply Par.quiet _ [true, false, false, false, false, true, true, true, true, true, true, true, true, true, true, true, true, true, true, true]; exact rfl; decide +kernel; exact rfl; intro R; refine ⟨_, (by repeat constructor), ?_⟩;
         (first | (apply EvW.loadAgg; exact rfl; exact AggC.eq; exact SzC.eq; (focus ((repeat constructor); done)); (focus ((repeat (first | exact SubL.nil | apply SubL.cons | apply SubL.succ)); done)))))
    (apply Par.quiet _ [true, false, false, true, false, true, true, true, true, true, true, true, true, true, true, true, true, true, true, true]; exact rfl; decide +kernel; exact rfl; intro R; refine ⟨_, (by repeat constructor), ?_⟩;
         (first | (apply EvW.move; exact rfl)))
    (apply Par.quiet _ [true, false, false, true, false, true, true, true, true, true, true, true, true, true, true, true, true, true, true, true]; exact rfl; decide +kernel; exact rfl; intro R; refine ⟨_, (by repeat constructor), ?_⟩;
         (first | (apply EvW.nilPtr; exact rfl)))
    (apply Par.quiet _ [true, false, false, true, false, true, true, true, true, true, true, true, true, true, true, true, true, true, true, true]; exact rfl; decide +kernel; exact rfl; intro R; refine ⟨_, (by repeat constructor), ?_⟩;
         (first | (apply EvW.fieldAddr0; exact rfl; exact FldC.eq)))
    (apply Par.quiet _ [true, false, false, true, false, true, true, true, true, true, true, true, true, true, true, true, true, true, true, true]; exact rfl; decide +kernel; exact rfl; intro R; refine ⟨_, (by repeat constructor), ?_⟩;
         (first | (apply EvW.load; exact rfl; exact ScalC.eq; (focus ((repeat constructor); done)); exact rfl)))
    (apply Par.quiet _ [true, false, false, true, false, true, true, true, true, true, true, true, true, true, true, true, true, true, true, true]; exact rfl; decide +kernel; exact rfl; intro R; refine ⟨_, (by repeat constructor), ?_⟩;
         (first | (apply EvW.nilPtr; exact rfl)))
    (apply Par.quiet _ [true, false, false, true, false, true, true, true, true, true, true, true, true, true, true, true, true, true, true, true]; exact rfl; decide +kernel; exact rfl; intro R; refine ⟨_, (by repeat constructor), ?_⟩;
         (first | (apply EvW.fieldAddr0; exact rfl; exact FldC.eq)))
    apply Par.eff _ [false, false, false, true, false, false, false, false, false, false, false, false, false, false, false, false, false, false, false, false] [false, false, false, false, true, false, false, false, false, false, false, false, false, false, false, false, false, false, false, false] [true, false, false, false, false, true, true, true, true, true, true, true, true, true, true, true, true, true, true, true]
    · exact rfl
    · exact rfl
    · decide +kernel
    · intro R
      refine ⟨_, _, _, (by repeat constructor), (by repeat constructor), (by repeat constructor), ?_⟩
      apply EffW.callT
      · exact rfl
      · exact fun w1 S1 hS1 hs1 ho1 => last_spec v.r rc w1 S1 hS1
      · exact fun w => Try.call31 _ w
      · (focus ((repeat constructor); done))
      · exact fun _ _ h => h
      · exact fun _ h => TakeT.st (by (focus ((repeat (first | exact TakeT.tail | apply TakeT.cons | exact Take.head | apply Take.tail | apply TakeT.drop)); done))) h
    (apply Par.quiet _ [true, false, false, false, true, true, true, true, true, true, true, true, true, true, true, true, true, true, true, true]; exact rfl; decide +kernel; exact rfl; intro R; refine ⟨_, (by repeat constructor), ?_⟩;
         (first | (apply EvW.nilPtr; exact rfl)))
    (apply Par.quiet _ [true, false, false, false, true, true, true, true, true, true, true, true, true, true, true, true, true, true, true, true]; exact rfl; decide +kernel; exact rfl; intro R; refine ⟨_, (by repeat constructor), ?_⟩;
         (first | (apply EvW.fieldAddr0; exact rfl; exact FldC.eq)))
    (apply Par.eff _ [true, false, false, false, false, false, false, false, false, false, false, false, false, false, false, false, false, false, false, false] [false, true, false, false, false, false, false, false, false, false, false, false, false, false, false, false, false, false, false, false] [false, false, false, false, true, true, true, true, true, true, true, true, true, true, true, true, true, true, true, true]; exact rfl; exact rfl; decide +kernel; intro R; refine ⟨_, _, _, (by repeat constructor), (by repeat constructor), (by repeat constructor), ?_⟩; (apply EffW.store; exact rfl; exact rfl; (first | assumption | exact rfl); exact SzC.eq; (first | assumption | exact rfl); (focus ((repeat constructor); done))))
    (apply Par.quiet _ [false, true, false, false, true, true, true, true, true, true, true, true, true, true, true, true, true, true, true, true]; exact rfl; decide +kernel; exact rfl; intro R; refine ⟨_, (by repeat constructor), ?_⟩;
         (first | (apply EvW.nilPtr; exact rfl)))
    (apply Par.quiet _ [false, true, false, false, true, true, true, true, true, true, true, true, true, true, true, true, true, true, true, true]; exact rfl; decide +kernel; exact rfl; intro R; refine ⟨_, (by repeat constructor), ?_⟩;
         (first | (apply EvW.fieldAddr0; exact rfl; exact FldC.eq)))
    (apply Par.eff _ [false, true, false, false, false, false, false, false, false, false, false, false, false, false, false, false, false, false, false, false] [false, false, true, false, false, false, false, false, false, false, false, false, false, false, false, false, false, false, false, false] [false, false, false, false, true, true, true, true, true, true, true, true, true, true, true, true, true, true, true, true]; exact rfl; exact rfl; decide +kernel; intro R; refine ⟨_, _, _, (by repeat constructor), (by repeat constructor), (by repeat constructor), ?_⟩; (apply EffW.store; exact rfl; exact rfl; (first | assumption | exact rfl); exact SzC.eq; (first | assumption | exact rfl); (focus ((repeat constructor); done))))
    exact Par.nil
  · repeat (first | exact AllN.nil | (apply AllN.cons; (intro c x; (repeat (first | exact IndA.nil | (apply IndA.skip; decide +kernel) | apply IndA.same))))) 
  · repeat (first | exact AllN.nil | (apply AllN.cons; (intro c x; (repeat (first | exact IndT.nil | (apply IndT.skip; decide +kernel) | apply IndT.same))))) 
  · exact fun _ => rfl
  intro c
  refine ⟨_, (by repeat constructor), ?_⟩
  apply WE.writ
  · (focus ((repeat (first | exact Writ.nil | apply Writ.some | apply Writ.none)); done))
  repeat first
    | (apply WL.q; exact rfl; exact rfl; exact rfl; (first | (apply EvW.move; exact rfl) | (apply EvW.assign; exact rfl)))
    | refine WC.seq ?_ | refine WC.region ?_ | refine WL.nil ?_ | refine WE.next ?_ | refine WC.ret ?_
  refine WE.pack (L := [.blk ((Voice.mk v.b v.r rc v.sh (Q4.mk a b y2 d z.1 z.2.1 z.2.2.1 z.2.2.2) rc.last)).b #[ptr ((Voice.mk v.b v.r rc v.sh (Q4.mk a b y2 d z.1 z.2.1 z.2.2.1 z.2.2.2) rc.last)).r 0, ((Voice.mk v.b v.r rc v.sh (Q4.mk a b y2 d z.1 z.2.1 z.2.2.1 z.2.2.2) rc.last)).sh.a, ((Voice.mk v.b v.r rc v.sh (Q4.mk a b y2 d z.1 z.2.1 z.2.2.1 z.2.2.2) rc.last)).sh.b, ((Voice.mk v.b v.r rc v.sh (Q4.mk a b y2 d z.1 z.2.1 z.2.2.1 z.2.2.2) rc.last)).sh.y, ((Voice.mk v.b v.r rc v.sh (Q4.mk a b y2 d z.1 z.2.1 z.2.2.1 z.2.2.2) rc.last)).sh.d, ((Voice.mk v.b v.r rc v.sh (Q4.mk a b y2 d z.1 z.2.1 z.2.2.1 z.2.2.2) rc.last)).sd.a, ((Voice.mk v.b v.r rc v.sh (Q4.mk a b y2 d z.1 z.2.1 z.2.2.1 z.2.2.2) rc.last)).sd.b, ((Voice.mk v.b v.r rc v.sh (Q4.mk a b y2 d z.1 z.2.1 z.2.2.1 z.2.2.2) rc.last)).sd.y, ((Voice.mk v.b v.r rc v.sh (Q4.mk a b y2 d z.1 z.2.1 z.2.2.1 z.2.2.2) rc.last)).sd.d, i64 ((Voice.mk v.b v.r rc v.sh (Q4.mk a b y2 d z.1 z.2.1 z.2.2.1 z.2.2.2) rc.last)).stamp] 78, .blk v.r #[i64 (rc).last, i64 (rc).lost, i64 (rc).num, i64 (rc).peer, i64 (rc).age] 85, .own 3 1 ((v.sh).a) ((v.sh).la).length (((v.sh).la).map i64), .own 3 1 ((v.sh).b) ((v.sh).lb).length (((v.sh).lb).map i64), .own 3 1 ((v.sh).y) ((v.sh).ly).length (((v.sh).ly).map i64), .own 3 1 ((v.sh).d) ((v.sh).ld).length (((v.sh).ld).map i64), .own 3 1 (((Q4.mk a b y2 d z.1 z.2.1 z.2.2.1 z.2.2.2)).a) (((Q4.mk a b y2 d z.1 z.2.1 z.2.2.1 z.2.2.2)).la).length ((((Q4.mk a b y2 d z.1 z.2.1 z.2.2.1 z.2.2.2)).la).map i64), .own 3 1 (((Q4.mk a b y2 d z.1 z.2.1 z.2.2.1 z.2.2.2)).b) (((Q4.mk a b y2 d z.1 z.2.1 z.2.2.1 z.2.2.2)).lb).length ((((Q4.mk a b y2 d z.1 z.2.1 z.2.2.1 z.2.2.2)).lb).map i64), .own 3 1 (((Q4.mk a b y2 d z.1 z.2.1 z.2.2.1 z.2.2.2)).y) (((Q4.mk a b y2 d z.1 z.2.1 z.2.2.1 z.2.2.2)).ly).length ((((Q4.mk a b y2 d z.1 z.2.1 z.2.2.1 z.2.2.2)).ly).map i64), .own 3 1 (((Q4.mk a b y2 d z.1 z.2.1 z.2.2.1 z.2.2.2)).d) (((Q4.mk a b y2 d z.1 z.2.1 z.2.2.1 z.2.2.2)).ld).length ((((Q4.mk a b y2 d z.1 z.2.1 z.2.2.1 z.2.2.2)).ld).map i64)]) (by repeat constructor) ?_
  refine WE.back (L := (x.vs.set oc.toNat (Voice.mk v.b v.r rc v.sh (Q4.mk a b y2 d z.1 z.2.1 z.2.2.1 z.2.2.2) rc.last)).map voiceH) (z := voiceH (Voice.mk v.b v.r rc v.sh (Q4.mk a b y2 d z.1 z.2.1 z.2.2.1 z.2.2.2) rc.last)) (by repeat constructor) (take_map_set _ hlt) ?_
  have hps : (x.vs.set oc.toNat (Voice.mk v.b v.r rc v.sh (Q4.mk a b y2 d z.1 z.2.1 z.2.2.1 z.2.2.2) rc.last)).map vPtr = x.vs.map vPtr := ptr_set hlt (by rw [hv])
  rw [← hps]
  refine WE.pack (L := [.blk (x).b #[(x).c.vS, (x).c.vJ, (x).c.vG, (x).c.vC, (x).c.vR, i64 (x).c.age, i64 (x).c.brake, i64 (x).c.hold, i64 (x).c.budget, (x).vv] 73, .own 47 3 (x.c).vS (x.c).secs.length ((x.c).secs.flatMap secC), .own 70 2 (x.c).vG (x.c).sigs.length ((x.c).sigs.flatMap sigC), .own 3 1 (x.c).vC (x.c).crs.length ((x.c).crs.map i64), .own 74 1 x.vv 4 ((x.vs.set oc.toNat (Voice.mk v.b v.r rc v.sh (Q4.mk a b y2 d z.1 z.2.1 z.2.2.1 z.2.2.2) rc.last)).map vPtr), sepL ((x.vs.set oc.toNat (Voice.mk v.b v.r rc v.sh (Q4.mk a b y2 d z.1 z.2.1 z.2.2.1 z.2.2.2) rc.last)).map voiceH)]) (by repeat constructor) ?_
  refine WE.keep (xs := [imgH { x with vs := x.vs.set oc.toNat (Voice.mk v.b v.r rc v.sh (Q4.mk a b y2 d z.1 z.2.1 z.2.2.1 z.2.2.2) rc.last) }]) (by repeat constructor) ?_
  refine WE.ret1 rfl rfl ?_
  refine ⟨.agg #[a, b, y2, d], ?_, ?_⟩
  · unfold tookE; rw [if_pos ⟨g0, g4⟩]; rw [if_neg (fun h => h rfl)]
  · unfold Img.took; rw [if_pos ⟨g0, g4⟩, hv]; unfold Voice.got; rw [if_neg (fun h => h rfl), if_pos rfl]; rfl
end Go.Proofs.Ytamofjpadnnppaa
namespace Go.Proofs.Ytamofjpadnnppaa
open Go.RowKit Go.BK
def Img.lost (x : Img) (i : Nat) : Int := ((x.vs.take i).map fun v => v.rc.lost).sum
theorem lostI_step (x : Img) (i : Nat) (h : i < x.vs.length) : x.lost (i + 1) = x.lost i + (x.vs.getD i default).rc.lost := by
  unfold Img.lost
  rw [List.take_add_one, getD_some (d := default) h, List.map_append, List.sum_append]; simp
theorem lostI_bd (x : Img) (M : Int) (hM : 0 ≤ M) (hb : ∀ k, k < x.vs.length → 0 ≤ (x.vs.getD k default).rc.lost ∧ (x.vs.getD k default).rc.lost ≤ M) : ∀ i : Nat, i ≤ x.vs.length → 0 ≤ x.lost i ∧ x.lost i ≤ i * M
  | 0, _ => by simp [Img.lost]
  | i + 1, h => by
    have h1 := lostI_bd x M hM hb i (by omega)
    have h2 := hb i (by omega)
    rw [lostI_step x i (by omega)]
    have : ((i + 1 : Nat) : Int) * M = i * M + M := by rw [Int.natCast_add, Int.add_mul]; simp
    omega
theorem rcvLostS_spec (b : Nat) (m : Rcv) (w : World) (S : BSet) (hS : (sepL []).sat S w) (hv : Sees w S (.blk b #[i64 (m).last, i64 (m).lost, i64 (m).num, i64 (m).peer, i64 (m).age] 85)) :
    Tri Try.prog 49 #[ptr b 0] w S fun u A => u = i64 m.lost ∧ A = [] := by
  refine Tri.enter (l := [ptr b 0]) Try.func49 rfl Try.ntmps49 rfl [(0, ptr b 0)] (subA rfl) hS ?_
  repeat first
    | (apply WL.q; exact rfl; exact rfl; exact rfl; (first | (apply EvW.move; exact rfl) | (apply EvW.assign; exact rfl) | (apply EvW.nilPtr; exact rfl) | (apply EvW.fieldAddr0; exact rfl; exact FldC.eq) | (apply EvW.ldSeen; exact rfl; exact ScalC.eq; assumption; (first | exact rfl | assumption))))
    | refine WC.seq ?_ | refine WC.region ?_ | refine WL.nil ?_ | refine WE.next ?_ | refine WC.ret ?_
  refine WE.ret1 rfl rfl ?_
  exact ⟨rfl, rfl⟩
theorem lostI_spec (x : Img) (w : World) (S : BSet) (hS : (sepL []).sat S w) (hx : x.Seen w S) (hb : ∀ k, k < x.vs.length → 0 ≤ (x.vs.getD k default).rc.lost ∧ (x.vs.getD k default).rc.lost ≤ 1152921504606846976) :
    Tri Try.prog 19 #[ptr x.b 0] w S fun u A => u = i64 (x.lost 4) ∧ A = [] := by
  refine Tri.enter (l := [ptr x.b 0]) Try.func19 rfl Try.ntmps19 rfl [(0, ptr x.b 0)] (subA rfl) hS ?_
  have hB := hx.blk
  have hV := hx.vv
  have hlen := hx.len
  repeat first
    | (apply WL.q; exact rfl; exact rfl; exact rfl; (first | (apply EvW.move; exact rfl) | (apply EvW.assign; exact rfl) | (apply EvW.nilPtr; exact rfl) | (apply EvW.fieldAddr0; exact rfl; exact FldC.eq) | (apply EvW.ldSeen; exact rfl; exact ScalC.eq; assumption; (first | exact rfl | assumption)) | (apply EvW.lenRow; exact rfl; exact UndC.eq; assumption)))
    | refine WC.seq ?_ | refine WC.region ?_ | refine WL.nil ?_ | refine WE.next ?_ | refine WC.block ?_
  refine WC.loopK (σ := Nat) [9, 10] (fun s => [(11, i64 s), (3, i64 (x.lost s))]) (fun s => []) (fun s => s ≤ 4) (fun s => 4 - s) 0 (by (focus ((repeat (first | exact Pick.nil | (apply Pick.cons; exact rfl))); done))) (by (focus ((repeat (first | exact trivial | (refine ⟨rfl, ?_⟩))); done))) (fun _ h => h.keep (by repeat constructor)) (Nat.zero_le _) (fun s hs => ?_)
  obtain ⟨i, rfl⟩ : ∃ q, q = s := ⟨s, rfl⟩
  simp only [List.cons_append, List.nil_append] at hs ⊢
  have hbd := lostI_bd x 1152921504606846976 (by decide) hb i (by omega)
  by_cases hlt : (i : Int) < (4 : Nat)
  · have hk := hx.v i (by omega)
    have hkb := hb i (by omega)
    have hat := Img.at (x := x) (k := i) (by omega)
    have hst := lostI_step x i (by omega)
    obtain ⟨v, hv⟩ : ∃ v, x.vs.getD i default = v := ⟨_, rfl⟩
    rw [hv] at hk hat hst hkb
    have hvb := hk.blk
    repeat first
      | (apply WL.q; exact rfl; exact rfl; exact rfl; (first | (apply EvW.cmpT; exact rfl; exact rfl; exact rfl; omega) | (apply EvW.idxRow; exact rfl; exact rfl; exact UndC.eq; exact SzC.eq; assumption; omega; omega)))
      | refine WC.seq ?_ | refine WC.region ?_ | refine WL.nil ?_ | refine WE.next ?_ | refine WC.block ?_ | refine WC.skip ?_ | refine WC.condT rfl ?_
    try refine WL.wanted rfl rfl rfl ?_
    (apply WL.q; exact rfl; exact rfl; exact rfl; (apply EvW.ldRow (i := i) (off := 0) (q := ptr v.b 0); exact rfl; exact ScalC.eq; assumption; exact hat))
    repeat first
      | (apply WL.q; exact rfl; exact rfl; exact rfl; (first | (apply EvW.move; exact rfl) | (apply EvW.assign; exact rfl) | (apply EvW.nilPtr; exact rfl) | (apply EvW.fieldAddr0; exact rfl; exact FldC.eq) | (apply EvW.ldSeen; exact rfl; exact ScalC.eq; assumption; (first | exact rfl | assumption))))
      | refine WC.region ?_ | refine WL.nil ?_ | refine WE.next ?_
    try refine WL.wanted rfl rfl rfl ?_
    apply WL.callA ([])
    · exact rfl
    · exact rfl
    · exact fun w => Try.call49 _ w
    · (focus ((repeat constructor); done))
    · exact fun w1 S1 hS1 hs1 ho1 => rcvLostS_spec v.r v.rc w1 S1 hS1 (hs1 _ hk.rcv)
    rintro _ _ ⟨rfl, rfl⟩
    first | refine WL.app4 ?_ | refine WL.app3 ?_ | refine WL.app2 ?_ | refine WL.app1 ?_ | refine WL.app0 ?_ | skip
    repeat first
      | (apply WL.q; exact rfl; exact rfl; exact rfl; (first | (apply EvW.move; exact rfl) | (apply EvW.assign; exact rfl) | (apply EvW.arN; exact rfl; exact rfl; exact rfl; refine i64_in ?_ ?_ <;> omega)))
      | refine WC.region ?_ | refine WL.nil ?_ | refine WE.next ?_ | refine WE.out ?_
    rw [← hst]
    skip
    exact WE.again (s := i) ((i + 1)) (by omega) (by (focus ((repeat (first | exact trivial | (refine ⟨rfl, ?_⟩))); done))) (fun _ h => (by (try simp only []); exact h.keep (by repeat constructor))) (by (try simp only []); omega)
  · obtain rfl : i = 4 := by omega
    repeat first
      | (apply WL.q; exact rfl; exact rfl; exact rfl; (first | (apply EvW.move; exact rfl) | (apply EvW.assign; exact rfl) | (apply EvW.cmpF; exact rfl; exact rfl; exact rfl; omega)))
      | refine WC.seq ?_ | refine WC.region ?_ | refine WL.nil ?_ | refine WE.next ?_ | refine WC.exit ?_ | refine WE.pass ?_ | refine WE.hit ?_ | refine WC.condF rfl ?_ | refine WC.ret ?_
    refine WE.bare ?_
    refine WE.ret1 rfl rfl ?_
    exact ⟨rfl, rfl⟩
/-- Of a controller, in the document's image: its receiver, the numbers that came, what it said, when. -/
structure REar where
  r : Nat
  v : Value
  ns : List Int
  rc : Rcv
  sd : Q4
  stamp : Int
instance : Inhabited REar := ⟨⟨0, .slice none 0 0, [], default, default, -1⟩⟩
structure RImg where
  b : Nat
  rv : Value
  sv : Value
  tv : Value
  es : List REar
def rPtr (e : REar) : Value := ptr e.r 0
def rSt (e : REar) : List Value := [e.sd.a, e.sd.b, e.sd.y, e.sd.d]
def RImg.sts (x : RImg) : List Int := x.es.map REar.stamp
structure REar.Seen (e : REar) (w : World) (S : BSet) : Prop where
  blk : Sees w S (.blk (e).r #[i64 (e).rc.peer, i64 (e).rc.age, i64 (e).rc.last, (e).v] 106)
  ns : Sees w S (.row 1 e.v e.ns.length (e.ns.map i64))
  sd : e.sd.Seen w S
theorem REar.Seen.down {v : REar} {w w' : World} {S S' : BSet} (h : v.Seen w S) (k : ∀ B, Sees w S B → Sees w' S' B) : v.Seen w' S' := ⟨k _ h.blk, k _ h.ns, h.sd.down k⟩
structure RImg.Seen (x : RImg) (c : Cfg) (w : World) (S : BSet) : Prop where
  blk : Sees w S (.blk (x).b #[(c).vS, (c).vJ, (c).vG, (c).vC, (c).vR, i64 (c).age, i64 (c).brake, i64 (c).hold, i64 (c).budget, (x).rv, (x).sv, (x).tv] 102)
  c : c.Seen w S
  rv : Sees w S (.row 1 x.rv 4 (x.es.map rPtr))
  sv : Sees w S (.row 4 x.sv 4 (x.es.flatMap rSt))
  tv : Sees w S (.row 1 x.tv x.sts.length (x.sts.map i64))
  len : x.es.length = 4
  e : ∀ k, k < 4 → ((x.es.getD k default)).Seen w S
theorem RImg.Seen.down {x : RImg} {c : Cfg} {w w' : World} {S S' : BSet} (h : x.Seen c w S) (k : ∀ B, Sees w S B → Sees w' S' B) : x.Seen c w' S' := ⟨k _ h.blk, h.c.down k, k _ h.rv, k _ h.sv, k _ h.tv, h.len, fun i hi => (h.e i hi).down k⟩
def RImg.st (x : RImg) (oc : Int) : Int := ((x.es.getD oc.toNat default)).stamp
def RImg.sdOf (x : RImg) (oc : Int) : Q4 := if 0 ≤ oc ∧ oc < 4 then ((x.es.getD oc.toNat default)).sd else nilQ
def shp (c : Cfg) (oc : Int) : Got := if 0 ≤ oc ∧ oc < 4 then (c.lS oc, c.lP oc, c.lC oc, c.lG oc) else ([], [], [], [])
theorem nil_seen {w : World} {S : BSet} : nilQ.Seen w S := ⟨Sees.nilRow, Sees.nilRow, Sees.nilRow, Sees.nilRow, by decide, by decide, by decide, by decide⟩
theorem RImg.Seen.sd {x : RImg} {c : Cfg} {w : World} {S : BSet} (h : x.Seen c w S) (oc : Int) : (x.sdOf oc).Seen w S := by
  unfold RImg.sdOf
  split
  · exact (h.e oc.toNat (by omega)).sd
  · exact nil_seen
end Go.Proofs.Ytamofjpadnnppaa
namespace Go.Proofs.Ytamofjpadnnppaa
open Go.RowKit Go.BK
def RImg.lk (x : RImg) (c : Cfg) (now oc el worst : Int) (f : Got → List Int) (sel : Q4 → List Int) : Int × Int × Bool := lookP (aliveP x.st now c.age oc) (atF (f (shp c oc)) el) (sel (x.sdOf oc)) (x.st oc) worst
def RImg.occ (x : RImg) (c : Cfg) (now : Int) (i : Nat) : Looks := (List.range i).map fun (k : Nat) => x.lk c now (c.secs.getD k default).oc k 1 (·.1) Q4.la
def RImg.pos (x : RImg) (c : Cfg) (now : Int) (i : Nat) : Looks := (List.range i).map fun (k : Nat) => x.lk c now (c.secs.getD k default).oc k 0 (·.2.1) Q4.lb
def RImg.shut (x : RImg) (c : Cfg) (now : Int) (i : Nat) : Looks := (List.range i).map fun (k : Nat) => x.lk c now (ocOf c (c.crs.getD k 0)) k 0 (·.2.2.1) Q4.ly
def RImg.lamp (x : RImg) (c : Cfg) (now : Int) (i : Nat) : Looks := (List.range i).map fun (k : Nat) => x.lk c now (ocOf c (c.sigs.getD k default).s) k 0 (·.2.2.2) Q4.ld
theorem RImg.occ_len (x : RImg) (c : Cfg) (now : Int) (i : Nat) : (x.occ c now i).length = i := by simp [RImg.occ]
theorem RImg.pos_len (x : RImg) (c : Cfg) (now : Int) (i : Nat) : (x.pos c now i).length = i := by simp [RImg.pos]
theorem RImg.shut_len (x : RImg) (c : Cfg) (now : Int) (i : Nat) : (x.shut c now i).length = i := by simp [RImg.shut]
theorem RImg.lamp_len (x : RImg) (c : Cfg) (now : Int) (i : Nat) : (x.lamp c now i).length = i := by simp [RImg.lamp]
end Go.Proofs.Ytamofjpadnnppaa
namespace Go.Proofs.Ytamofjpadnnppaa
open Go.RowKit Go.BK
def newE (c : Cfg) (k : Nat) (p : Nat) : REar := ⟨p, .slice none 0 0, [], Rcv.new k c.age, nilQ, -1⟩
def esOf (c : Cfg) (ps : List Nat) : List REar := ps.mapIdx (newE c)
end Go.Proofs.Ytamofjpadnnppaa
namespace Go.Proofs.Ytamofjpadnnppaa
open Go.RowKit Go.BK
def REar.with (e : REar) (rc : Rcv) (v : Value) (ns : List Int) : REar := { e with rc := rc, v := v, ns := ns }
def REar.got (e : REar) (t : Rcv × List UInt8 × Int) (k : Int) (z : Got) (sv v : Value) (ns : List Int) : REar := if t.2.2 ≠ 0 then e.with t.1 v ns else if k = 0 then { e with rc := t.1, v := v, ns := ns, sd := Q4.of sv z, stamp := t.1.last } else e.with t.1 v ns
def RImg.took (x : RImg) (oc : Int) (t : Rcv × List UInt8 × Int) (k : Int) (z : Got) (sv v : Value) (ns : List Int) : RImg := if 0 ≤ oc ∧ oc < 4 then { x with es := x.es.set oc.toNat (((x.es.getD oc.toNat default)).got t k z sv v ns) } else x
structure RImg.Ok (x : RImg) : Prop where
  len : x.es.length = 4
  few : ∀ k, k < 4 → ((x.es.getD k default)).sd.Few
def RImg.lost (x : RImg) (i : Nat) : Int := ((x.es.take i).map fun e => Go.Proofs.Ytamofjpadnnppaa.lost e.ns).sum
theorem rlostI_step (x : RImg) (i : Nat) (h : i < x.es.length) : x.lost (i + 1) = x.lost i + Go.Proofs.Ytamofjpadnnppaa.lost (x.es.getD i default).ns := by
  unfold RImg.lost
  rw [List.take_add_one, getD_some (d := default) h, List.map_append, List.sum_append]; simp
end Go.Proofs.Ytamofjpadnnppaa
namespace Go.Proofs.Ytamofjpadnnppaa
open Go.RowKit Go.BK
theorem lput_step {m : PW} {b : List UInt8} (h : (m.put b).e = 0) : m.e = 0 ∧ (m.put b).out = m.out ++ b := by
  unfold PW.put at h ⊢
  split at h
  · simp only [PW.note] at h
    split at h
    · omega
    · contradiction
  · rename_i hc
    rw [if_neg hc]
    split at h
    · rename_i he
      rw [if_pos he]
      exact ⟨he, rfl⟩
    · contradiction
theorem lnum_step {m : PW} {k : Nat} {x : Int} (h : (m.num k x).e = 0) : m.e = 0 ∧ (0 ≤ x ∧ x < 256 ^ k) ∧ (m.num k x).out = m.out ++ be k x := by
  by_cases hb : x < 0 ∨ 256 ^ k ≤ x
  · rw [num_wrong k m x hb] at h
    simp only [PW.note] at h
    split at h
    · omega
    · contradiction
  · have h0 : 0 ≤ x ∧ x < 256 ^ k := by omega
    rw [num_right k m x h0.1 h0.2] at h ⊢
    exact ⟨(lput_step h).1, h0, (lput_step h).2⟩
theorem lnum_ok (k : Nat) (m : PW) (x : Int) (he : m.e = 0) (h0 : 0 ≤ x) (h1 : x < 256 ^ k) (hr : (m.out.length : Int) + k ≤ m.lim) : m.num k x = ⟨0, m.out ++ be k x, m.lim⟩ := by
  rw [num_right k m x h0 h1]
  unfold PW.put
  rw [if_neg (by rw [be_length]; omega), if_pos he]
  cases m
  simp only [PW.add] at he ⊢
  rw [he]
theorem lnum_app (k : Nat) (x : Int) (t : List UInt8) (h : numOf (be k x) = x) : (PR.mk 0 (be k x ++ t)).num k = (x, PR.mk 0 t) := by
  rw [num_good (PR.mk 0 (be k x ++ t)) k rfl (by simp [be_length])]
  dsimp only
  rw [List.take_left' (be_length k x), List.drop_left' (be_length k x), h]
def tBytes (x : Said) : List UInt8 := be 1 x.p ++ (be 2 x.n ++ be 4 x.s)
theorem tBytes_len (x : Said) : (tBytes x).length = 7 := by simp [tBytes, be_length]
theorem tM_of {x : Said} (h1 : 0 ≤ x.p ∧ x.p < 256) (h2 : 0 ≤ x.n ∧ x.n < 65536) (h3 : 0 ≤ x.s ∧ x.s < 4294967296) : tM x.p x.n x.s = ⟨0, tBytes x, 7⟩ := by
  unfold tM
  rw [lnum_ok 1 (PW.init 7) x.p rfl h1.1 (by simpa using h1.2) (by decide)]
  rw [lnum_ok 2 _ x.n rfl h2.1 (by simpa using h2.2) (by simp [PW.init, be_length] <;> decide)]
  rw [lnum_ok 4 _ x.s rfl h3.1 (by simpa using h3.2) (by simp [PW.init, be_length] <;> decide)]
  simp [tBytes, PW.init] <;> decide
theorem tM_step {x : Said} (h : (tM x.p x.n x.s).e = 0) : (0 ≤ x.p ∧ x.p < 256) ∧ (0 ≤ x.n ∧ x.n < 65536) ∧ (0 ≤ x.s ∧ x.s < 4294967296) := by
  obtain ⟨h2, b3, _⟩ := lnum_step h
  obtain ⟨h1, b2, _⟩ := lnum_step h2
  obtain ⟨_, b1, _⟩ := lnum_step h1
  exact ⟨by simpa using b1, by simpa using b2, by simpa using b3⟩
theorem make_ok {x : Said} (h : x.small) : makeF x = (frame (tBytes x ++ x.t), 0) := by
  have hl := h.t
  unfold makeF
  rw [tM_of h.p h.n h.s, if_neg (fun k => k rfl), if_neg (by omega)]
theorem make_cases {x : Said} {q : List UInt8} (h : makeF x = (q, 0)) : x.small ∧ q = frame (tBytes x ++ x.t) := by
  unfold makeF at h
  by_cases he : (tM x.p x.n x.s).e = 0
  rotate_left
  · rw [if_pos he] at h; exact absurd (congrArg Prod.snd h) he
  rw [if_neg (fun k => k he)] at h
  by_cases hl : (x.t.length : Int) > 1000
  · rw [if_pos hl] at h; exact absurd (congrArg Prod.snd h) (by simp)
  rw [if_neg hl] at h
  obtain ⟨b1, b2, b3⟩ := tM_step he
  rw [tM_of b1 b2 b3] at h
  exact ⟨⟨b1, b2, b3, by omega⟩, (congrArg Prod.fst h).symm⟩
theorem read_frame {x : Said} (h : x.small) : readF (frame (tBytes x ++ x.t)) = (x, 0) := by
  have hl := h.t
  have h7 := tBytes_len x
  have e1 : r1 (tBytes x ++ x.t) = (x.p, PR.mk 0 (be 2 x.n ++ (be 4 x.s ++ x.t))) := by
    have e : tBytes x ++ x.t = be 1 x.p ++ (be 2 x.n ++ (be 4 x.s ++ x.t)) := by simp [tBytes]
    rw [e]; exact lnum_app 1 x.p _ (numOf_be1 _ h.p.1 h.p.2)
  have e2 : r2 (tBytes x ++ x.t) = (x.n, PR.mk 0 (be 4 x.s ++ x.t)) := by unfold r2; rw [e1]; exact lnum_app 2 x.n _ (numOf_be2 _ h.n.1 h.n.2)
  have e3 : r3 (tBytes x ++ x.t) = (x.s, PR.mk 0 x.t) := by unfold r3; rw [e2]; exact lnum_app 4 x.s _ (numOf_be4 _ h.s.1 h.s.2)
  unfold readF
  rw [openF_frame _ (by rw [List.length_append]; omega)]
  dsimp only
  rw [if_neg (fun k => k rfl), if_neg (by rw [List.length_append]; omega), if_neg (by rw [List.length_append]; omega), e1, e2, e3, List.drop_left' h7]
theorem make_back {x : Said} {q : List UInt8} (h : makeF x = (q, 0)) : readF q = (x, 0) ∧ q.length ≤ 1013 := by
  obtain ⟨hs, rfl⟩ := make_cases h
  have hl := hs.t
  have h7 := tBytes_len x
  exact ⟨read_frame hs, by rw [frame_length, List.length_append]; omega⟩
end Go.Proofs.Ytamofjpadnnppaa
namespace Go.Proofs.Ytamofjpadnnppaa
open Go.RowKit Go.BK
/-- What a receiver knows of the numbers that it took. -/
def Rel (m : Rcv) (ns : List Int) : Prop := (ns = [] ∧ m.last = -1 ∧ m.lost = 0) ∨ ∃ x t, ns = x :: t ∧ 0 ≤ m.last ∧ (m.num, m.lost) = t.foldl lostStep (x, 0)
theorem Rel.lost {m : Rcv} {ns : List Int} (h : Rel m ns) : Go.Proofs.Ytamofjpadnnppaa.lost ns = m.lost := by
  rcases h with ⟨rfl, _, h⟩ | ⟨x, t, rfl, _, h⟩
  · rw [h]; rfl
  · show (t.foldl lostStep (x, 0)).2 = m.lost
    rw [← h]
theorem Rel.bd {m : Rcv} {ns : List Int} (h : Rel m ns) : 0 ≤ m.lost ∧ m.lost ≤ 32767 * ns.length := by
  rcases h with ⟨rfl, _, h⟩ | ⟨x, t, rfl, _, h⟩
  · rw [h]; simp
  · have := lost_bd t (x, 0) (Int.le_refl _)
    rw [← h] at this
    simp only [List.length_cons] at this ⊢
    omega
theorem Rel.note {m : Rcv} {ns : List Int} (h : Rel m ns) {n s : Int} (hs : 0 ≤ s) : Rel (m.note n s) (ns ++ [n]) := by
  rcases h with ⟨rfl, h1, h2⟩ | ⟨x, t, rfl, h1, h2⟩
  · refine .inr ⟨n, [], rfl, by rw [note_last]; exact hs, ?_⟩
    unfold Rcv.note
    rw [if_neg (by omega)]
    show (n, m.lost) = (n, 0)
    rw [h2]
  · refine .inr ⟨x, t ++ [n], rfl, by rw [note_last]; exact hs, ?_⟩
    unfold Rcv.note
    rw [if_pos h1, List.foldl_append, ← h2]
    rfl
theorem Rel.step {m : Rcv} {ns : List Int} (h : Rel m ns) (now : Int) {x : Said} (e : Int) (hx : x.small) : Rel (takeF m now (x, e)).1 (numsF m now (x, e) ns) ∧ (numsF m now (x, e) ns).length ≤ ns.length + 1 := by
  unfold numsF takeF
  dsimp only
  by_cases he : e = 0
  rotate_left
  · rw [if_pos he]; dsimp only; rw [if_neg he]; exact ⟨h, Nat.le_succ _⟩
  rw [if_neg (fun k => k he)]
  by_cases hp : x.p = m.peer
  rotate_left
  · rw [if_pos hp]; exact ⟨h, Nat.le_succ _⟩
  rw [if_neg (fun k => k hp)]
  by_cases hn : now < x.s
  · rw [if_pos hn]; exact ⟨h, Nat.le_succ _⟩
  rw [if_neg hn]
  by_cases ha : m.age < now - x.s
  · rw [if_pos ha]; exact ⟨h, Nat.le_succ _⟩
  rw [if_neg ha]
  by_cases hz : x.s ≤ m.last
  · rw [if_pos hz]; exact ⟨h, Nat.le_succ _⟩
  rw [if_neg hz]
  exact ⟨h.note hx.s.1, by simp⟩
end Go.Proofs.Ytamofjpadnnppaa
namespace Go.Proofs.Ytamofjpadnnppaa
open Go.RowKit Go.BK
theorem tpart_len {l : List UInt8} {o n : Nat} (h : o + n ≤ l.length) : (tpart l o n).length = n := by simp [tpart]; omega
theorem RS.lens {h : Q4} {l : List UInt8} {z : Got} (k : RS h l 0 z) : z.1.length = h.la.length ∧ z.2.1.length = h.lb.length ∧ z.2.2.1.length = h.ly.length ∧ z.2.2.2.length = h.ld.length := by
  rcases k with ⟨hg, _, rfl⟩ | ⟨_, h, _⟩
  · have hl := hg.1
    exact ⟨tpart_len (by omega), tpart_len (by omega), tpart_len (by omega), tpart_len (by omega)⟩
  · cases h
/-- A controller's voice, and what the document has of it. -/
structure Pair (c : Cfg) (k : Nat) (v : Voice) (e : REar) (n : Nat) : Prop where
  rc : v.rc = e.rc
  rel : Rel e.rc e.ns
  nl : e.ns.length ≤ n
  sa : v.sd.la = e.sd.la
  sb : v.sd.lb = e.sd.lb
  sy : v.sd.ly = e.sd.ly
  sd : v.sd.ld = e.sd.ld
  st : v.stamp = e.stamp
  sh : ∃ q, v.sh = c.shape k q
  la : 0 ≤ e.stamp → e.sd.la.length = (c.lS k).length
  lb : 0 ≤ e.stamp → e.sd.lb.length = (c.lP k).length
  ly : 0 ≤ e.stamp → e.sd.ly.length = (c.lC k).length
  ld : 0 ≤ e.stamp → e.sd.ld.length = (c.lG k).length
  few : e.sd.Few
theorem shape_few {c : Cfg} (h : c.Small) (oc : Int) (q : Value) : (c.shape oc q).Few := by
  have k1 := idx_le (c.pS oc) c.secs.length
  have k2 := idx_le (c.pP oc) c.secs.length
  have k3 := idx_le (c.pC oc) c.crs.length
  have k4 := idx_le (c.pG oc) c.sigs.length
  have k5 := h.s
  have k6 := h.g
  have k7 := h.r
  exact ⟨by show (idx _ _).length ≤ _; omega, by show (idx _ _).length ≤ _; omega, by show (idx _ _).length ≤ _; omega, by show (idx _ _).length ≤ _; omega⟩
theorem Pair.vfew {c : Cfg} {k : Nat} {v : Voice} {e : REar} {n : Nat} (h : Pair c k v e n) (hs : c.Small) : v.Few := by
  obtain ⟨q, hq⟩ := h.sh
  refine ⟨by rw [hq]; exact shape_few hs _ _, ?_⟩
  exact ⟨by rw [h.sa]; exact h.few.a, by rw [h.sb]; exact h.few.b, by rw [h.sy]; exact h.few.y, by rw [h.sd]; exact h.few.d⟩
theorem Pair.up {c : Cfg} {k : Nat} {v : Voice} {e : REar} {n : Nat} (h : Pair c k v e n) : Pair c k v e (n + 1) :=
  ⟨h.rc, h.rel, Nat.le_succ_of_le h.nl, h.sa, h.sb, h.sy, h.sd, h.st, h.sh, h.la, h.lb, h.ly, h.ld, h.few⟩
theorem rs_few {h : Q4} {l : List UInt8} {k : Int} {z : Got} (hk : RS h l k z) (hf : h.Few) (sv : Value) : (Q4.of sv z).Few := by
  rcases hk with ⟨_, _, rfl⟩ | ⟨_, _, rfl⟩
  · exact ⟨Nat.le_trans (tpart_le _ _ _) hf.a, Nat.le_trans (tpart_le _ _ _) hf.b, Nat.le_trans (tpart_le _ _ _) hf.y, Nat.le_trans (tpart_le _ _ _) hf.d⟩
  · exact ⟨Nat.zero_le _, Nat.zero_le _, Nat.zero_le _, Nat.zero_le _⟩
theorem Pair.step {c : Cfg} {k : Nat} {v : Voice} {e : REar} {n : Nat} (h : Pair c k v e n) (hs : c.Small) {now : Int} {y : Said} {er : Int} {l : List UInt8} (hr : readF l = (y, er)) {t : Rcv × List UInt8 × Int} (ht : takeF e.rc now (y, er) = t) {j : Int} {z : Got} (hk : RS (c.shape k undef) t.2.1 j z) (sv sv' nv : Value) :
    Pair c k (v.got t j z sv) (e.got t j z sv' nv (numsF e.rc now (y, er) e.ns)) (n + 1) := by
  obtain ⟨hR, hl⟩ := h.rel.step now er (readF_small hr)
  rw [ht] at hR
  have hn := h.nl
  unfold Voice.got REar.got
  by_cases h1 : t.2.2 ≠ 0
  · rw [if_pos h1, if_pos h1]
    exact ⟨rfl, hR, by show (numsF _ _ _ _).length ≤ _; omega, h.sa, h.sb, h.sy, h.sd, h.st, h.sh, h.la, h.lb, h.ly, h.ld, h.few⟩
  rw [if_neg h1, if_neg h1]
  by_cases h2 : j = 0
  · subst h2
    rw [if_pos rfl, if_pos rfl]
    obtain ⟨k1, k2, k3, k4⟩ := hk.lens
    exact ⟨rfl, hR, by show (numsF _ _ _ _).length ≤ _; omega, rfl, rfl, rfl, rfl, rfl, h.sh, fun _ => k1, fun _ => k2, fun _ => k3, fun _ => k4, rs_few hk (shape_few hs _ _) _⟩
  · rw [if_neg h2, if_neg h2]
    exact ⟨rfl, hR, by show (numsF _ _ _ _).length ≤ _; omega, h.sa, h.sb, h.sy, h.sd, h.st, h.sh, h.la, h.lb, h.ly, h.ld, h.few⟩
structure Alike (c : Cfg) (x : Img) (y : RImg) (n : Nat) : Prop where
  cs : x.c.secs = c.secs
  cr : x.c.crs = c.crs
  cg : x.c.sigs = c.sigs
  ca : x.c.age = c.age
  xl : x.vs.length = 4
  yl : y.es.length = 4
  p : ∀ k, k < 4 → Pair c k ((x.vs.getD k default)) ((y.es.getD k default)) n
theorem getD_set {α : Type} {l : List α} {i j : Nat} {a d : α} (h : i < l.length) : (l.set i a).getD j d = if i = j then a else l.getD j d := by
  rw [List.getD_eq_getElem?_getD, List.getElem?_set]
  split
  · rfl
  · rw [← List.getD_eq_getElem?_getD]
theorem Alike.step {c : Cfg} {x : Img} {y : RImg} {n : Nat} (h : Alike c x y n) (hs : c.Small) {now oc : Int} {m : Said} {er : Int} {l : List UInt8} (hr : readF l = (m, er)) {t : Rcv × List UInt8 × Int} (ht : takeF ((y.es.getD oc.toNat default)).rc now (m, er) = t) {j : Int} {z : Got} (hk : 0 ≤ oc ∧ oc < 4 → RS (c.shape oc undef) t.2.1 j z) (sv sv' nv : Value) :
    Alike c (x.took oc t j z sv) (y.took oc t j z sv' nv (numsF ((y.es.getD oc.toNat default)).rc now (m, er) ((y.es.getD oc.toNat default)).ns)) (n + 1) := by
  unfold Img.took RImg.took
  by_cases g : 0 ≤ oc ∧ oc < 4
  rotate_left
  · rw [if_neg g, if_neg g]
    exact ⟨h.cs, h.cr, h.cg, h.ca, h.xl, h.yl, fun k hk => (h.p k hk).up⟩
  rw [if_pos g, if_pos g]
  refine ⟨h.cs, h.cr, h.cg, h.ca, by simp [h.xl], by simp [h.yl], fun k hk4 => ?_⟩
  dsimp only
  rw [getD_set (by rw [h.xl]; omega), getD_set (by rw [h.yl]; omega)]
  by_cases e : oc.toNat = k
  · rw [if_pos e, if_pos e]
    subst e
    have hoc : ((oc.toNat : Nat) : Int) = oc := Int.toNat_of_nonneg g.1
    exact (h.p _ hk4).step hs hr ht (by rw [hoc]; exact hk g) sv sv' nv
  · rw [if_neg e, if_neg e]
    exact (h.p k hk4).up
theorem Alike.xok {c : Cfg} {x : Img} {y : RImg} {n : Nat} (h : Alike c x y n) (hs : c.Small) : x.Ok :=
  ⟨h.xl, fun k hk => (h.p k hk).vfew hs, ⟨by rw [h.cs]; exact hs.s, by rw [h.cg]; exact hs.g, by rw [h.cr]; exact hs.r⟩⟩
theorem Alike.alive {c : Cfg} {x : Img} {y : RImg} {n : Nat} (h : Alike c x y n) (now oc : Int) : aliveP y.st now c.age oc = aliveP x.st now x.c.age oc := by
  by_cases g : 0 ≤ oc ∧ oc < 4
  · rw [aliveP_in g, aliveP_in g, h.ca]
    show freshF ((y.es.getD oc.toNat default)).stamp _ _ = freshF ((x.vs.getD oc.toNat default)).stamp _ _
    rw [(h.p oc.toNat (by omega)).st]
  · rw [aliveP_out g, aliveP_out g]
theorem alive_pos {st : Int → Int} {now age oc : Int} (h : aliveP st now age oc = true) : (0 ≤ oc ∧ oc < 4) ∧ 0 ≤ st oc ∧ st oc ≤ now ∧ now - st oc ≤ age := by
  by_cases g : 0 ≤ oc ∧ oc < 4
  · rw [aliveP_in g] at h
    unfold freshF at h
    simp only [Bool.and_eq_true, decide_eq_true_eq] at h
    exact ⟨g, h.1, h.2.1, h.2.2⟩
  · rw [aliveP_out g] at h; cases h
theorem Alike.sound {c : Cfg} {x : Img} {y : RImg} {n : Nat} (h : Alike c x y n) (now : Int) : x.Sound now := by
  have key : ∀ oc, aliveP x.st now x.c.age oc = true → Pair c oc.toNat ((x.vs.getD oc.toNat default)) ((y.es.getD oc.toNat default)) n ∧ 0 ≤ ((y.es.getD oc.toNat default)).stamp := fun oc ho => by
    obtain ⟨g, g0, _⟩ := alive_pos ho
    have hp := h.p oc.toNat (by omega)
    refine ⟨hp, ?_⟩
    rw [← hp.st]; exact g0
  refine ⟨fun oc ho => ?_, fun oc ho => ?_, fun oc ho => ?_, fun oc ho => ?_⟩ <;> obtain ⟨hp, h0⟩ := key oc ho <;> obtain ⟨q, hq⟩ := hp.sh
  · rw [hp.sa, hp.la h0, hq]; rfl
  · rw [hp.sb, hp.lb h0, hq]; rfl
  · rw [hp.sy, hp.ly h0, hq]; rfl
  · rw [hp.sd, hp.ld h0, hq]; rfl
theorem Alike.look {c : Cfg} {x : Img} {y : RImg} {n : Nat} (h : Alike c x y n) (now oc el worst : Int) (sel : Sel) (f : Got → List Int) (s : Q4 → List Int) (h1 : ∀ q, (sel q).2 = s q) (h2 : ∀ (k : Int) q, s (c.shape k q) = f (c.lS k, c.lP k, c.lC k, c.lG k)) (h3 : ∀ k, k < 4 → s ((x.vs.getD k default)).sd = s ((y.es.getD k default)).sd) :
    lookP (aliveP x.st now x.c.age oc) (atF (sel ((x.vs.getD oc.toNat default)).sh).2 el) (sel ((x.vs.getD oc.toNat default)).sd).2 ((x.vs.getD oc.toNat default)).stamp worst = y.lk c now oc el worst f s := by
  unfold RImg.lk
  rw [h.alive]
  cases ha : aliveP x.st now x.c.age oc with
  | false => rw [lookP_dead, lookP_dead]
  | true =>
    obtain ⟨g, _⟩ := alive_pos ha
    have hp := h.p oc.toNat (by omega)
    have hoc : ((oc.toNat : Nat) : Int) = oc := Int.toNat_of_nonneg g.1
    obtain ⟨q, hq⟩ := hp.sh
    rw [h1, h1, hq, h2, h3 _ (by omega), hp.st, hoc]
    unfold shp RImg.sdOf RImg.st
    rw [if_pos g, if_pos g]
theorem Alike.occ {c : Cfg} {x : Img} {y : RImg} {n : Nat} (h : Alike c x y n) (now : Int) : x.occ now x.c.secs.length = y.occ c now c.secs.length := by
  unfold Img.occ RImg.occ
  rw [h.cs]
  refine List.map_congr_left fun i hi => ?_
  rw [List.mem_range] at hi
  unfold Img.lookV
  rw [ocOf_in (by omega) (by rw [h.cs]; omega), h.cs]
  exact h.look now _ _ _ selA (·.1) Q4.la (fun _ => rfl) (fun _ _ => rfl) (fun k hk => (h.p k hk).sa)
theorem Alike.pos {c : Cfg} {x : Img} {y : RImg} {n : Nat} (h : Alike c x y n) (now : Int) : x.pos now x.c.secs.length = y.pos c now c.secs.length := by
  unfold Img.pos RImg.pos
  rw [h.cs]
  refine List.map_congr_left fun i hi => ?_
  rw [List.mem_range] at hi
  unfold Img.lookV
  rw [ocOf_in (by omega) (by rw [h.cs]; omega), h.cs]
  exact h.look now _ _ _ selB (·.2.1) Q4.lb (fun _ => rfl) (fun _ _ => rfl) (fun k hk => (h.p k hk).sb)
theorem ocOf_same {c d : Cfg} (h : d.secs = c.secs) (s : Int) : ocOf d s = ocOf c s := by unfold ocOf; rw [h]
theorem Alike.shut {c : Cfg} {x : Img} {y : RImg} {n : Nat} (h : Alike c x y n) (now : Int) : x.shut now x.c.crs.length = y.shut c now c.crs.length := by
  unfold Img.shut RImg.shut
  rw [h.cr]
  refine List.map_congr_left fun i hi => ?_
  unfold Img.lookV
  rw [ocOf_same h.cs]
  exact h.look now _ _ _ selY (·.2.2.1) Q4.ly (fun _ => rfl) (fun _ _ => rfl) (fun k hk => (h.p k hk).sy)
theorem Alike.lamp {c : Cfg} {x : Img} {y : RImg} {n : Nat} (h : Alike c x y n) (now : Int) : x.lamp now x.c.sigs.length = y.lamp c now c.sigs.length := by
  unfold Img.lamp RImg.lamp
  rw [h.cg]
  refine List.map_congr_left fun i hi => ?_
  unfold Img.lookV
  rw [ocOf_same h.cs]
  exact h.look now _ _ _ selD (·.2.2.2) Q4.ld (fun _ => rfl) (fun _ _ => rfl) (fun k hk => (h.p k hk).sd)
theorem Alike.lost {c : Cfg} {x : Img} {y : RImg} {n : Nat} (h : Alike c x y n) : ∀ i, i ≤ 4 → x.lost i = y.lost i
  | 0, _ => by simp [Img.lost, RImg.lost]
  | i + 1, hi => by
    rw [lostI_step x i (by rw [h.xl]; omega), rlostI_step y i (by rw [h.yl]; omega), h.lost i (by omega), (h.p i (by omega)).rel.lost, (h.p i (by omega)).rc]
theorem Alike.lostX {c : Cfg} {x : Img} {y : RImg} {n : Nat} (h : Alike c x y n) (hn : n ≤ 1048576) : ∀ k, k < x.vs.length → 0 ≤ ((x.vs.getD k default)).rc.lost ∧ ((x.vs.getD k default)).rc.lost ≤ 1152921504606846976 := fun k hk => by
  have hp := h.p k (by rw [h.xl] at hk; exact hk)
  have hb := hp.rel.bd
  have hl := hp.nl
  rw [hp.rc]
  omega
theorem getD_out {α : Type} {l : List α} {d : α} {i : Nat} (h : l.length ≤ i) : l.getD i d = d := by
  rw [List.getD_eq_getElem?_getD, List.getElem?_eq_none h]; rfl
theorem Alike.rcs {c : Cfg} {x : Img} {y : RImg} {n : Nat} (h : Alike c x y n) (k : Nat) : ((x.vs.getD k default)).rc = ((y.es.getD k default)).rc := by
  by_cases hk : k < 4
  · exact (h.p k hk).rc
  · rw [getD_out (by rw [h.xl]; omega), getD_out (by rw [h.yl]; omega)]; rfl
theorem Alike.lostA {c : Cfg} {x : Img} {y : RImg} {n : Nat} (h : Alike c x y n) (hn : n ≤ 1048576) (k : Nat) : 0 ≤ ((x.vs.getD k default)).rc.lost ∧ ((x.vs.getD k default)).rc.lost ≤ 4611686018427387904 := by
  by_cases hk : k < 4
  · have := h.lostX hn k (by rw [h.xl]; exact hk)
    omega
  · rw [getD_out (by rw [h.xl]; omega)]; exact ⟨by show (0 : Int) ≤ 0; decide, by show (0 : Int) ≤ _; decide⟩
theorem Alike.rs {c : Cfg} {x : Img} {y : RImg} {n : Nat} (h : Alike c x y n) {oc : Int} {l : List UInt8} {j : Int} {z : Got} (hk : RS (c.shape oc undef) l j z) (g : 0 ≤ oc ∧ oc < 4) : RS ((x.vs.getD oc.toNat default)).sh l j z := by
  obtain ⟨q, hq⟩ := (h.p oc.toNat (by omega)).sh
  rw [hq, show ((oc.toNat : Nat) : Int) = oc from Int.toNat_of_nonneg g.1]
  exact hk
theorem new_alike (c : Cfg) (p : Nat × Value) (y : RImg) (ps : List Nat) (hp : ps.length = 4) (hy : y.es = esOf c ps) : Alike c (newI c p) y 0 := by
  have pr : ∀ (k : Nat) (a : Value) (b : Nat), Pair c k (newV c k a) (newE c k b) 0 := fun k a b =>
    ⟨rfl, .inl ⟨rfl, rfl, rfl⟩, Nat.le_refl _, rfl, rfl, rfl, rfl, rfl, ⟨_, rfl⟩, fun h => absurd h (by show ¬ (0 : Int) ≤ -1; decide), fun h => absurd h (by show ¬ (0 : Int) ≤ -1; decide), fun h => absurd h (by show ¬ (0 : Int) ≤ -1; decide), fun h => absurd h (by show ¬ (0 : Int) ≤ -1; decide), ⟨Nat.zero_le _, Nat.zero_le _, Nat.zero_le _, Nat.zero_le _⟩⟩
  match ps, hp with
  | [a, b, d, e], _ =>
    refine ⟨rfl, rfl, rfl, rfl, rfl, by rw [hy]; rfl, fun k hk => ?_⟩
    rw [hy]
    match k, hk with
    | 0, _ => exact pr 0 _ a
    | 1, _ => exact pr 1 _ b
    | 2, _ => exact pr 2 _ d
    | 3, _ => exact pr 3 _ e
def rI (c : Cfg) (p : Nat × Value) : RImg := ⟨p.1, cA p.2 0, cA p.2 1, cA p.2 2, esOf c [pB (cA p.2 3), pB (cA p.2 4), pB (cA p.2 5), pB (cA p.2 6)]⟩
theorem new_alike' (c : Cfg) (p q : Nat × Value) : Alike c (newI c p) (rI c q) 0 := new_alike c p _ [pB (cA q.2 3), pB (cA q.2 4), pB (cA q.2 5), pB (cA q.2 6)] rfl rfl
end Go.Proofs.Ytamofjpadnnppaa
namespace Go.Proofs.Ytamofjpadnnppaa
open Go.RowKit Go.BK
def gL (v : Value) : Cfg := ⟨v, (.slice none 0 0), (.slice none 0 0), (.slice none 0 0), (.slice none 0 0), [⟨0, 0, 0⟩], [], [], 2, 0, 0, 0⟩
def sL : Said := ⟨0, 1, 5, [1, 0]⟩
theorem sL_small : sL.small := ⟨by decide, by decide, by decide, by decide⟩
theorem tL : takeF (Rcv.new ((0 : Nat) : Int) 2) 5 (sL, 0) = (⟨5, 0, 1, 0, 2⟩, [1, 0], 0) := by kernel_rfl
theorem gL_small (v : Value) : (gL v).Small := ⟨by show 1 ≤ 1048576; decide, Nat.zero_le _, Nat.zero_le _⟩
theorem gL_lS (v : Value) : (gL v).lS 0 = [0] := by kernel_rfl
theorem gL_lP (v : Value) : (gL v).lP 0 = [] := by kernel_rfl
theorem rL (v q : Value) : RS ((gL v).shape 0 q) [1, 0] 0 ([0], [], [], []) := by
  left
  refine ⟨?_, rfl, ?_⟩
  · show good4 [1, 0] 1 ((gL v).lS 0).length ((gL v).lP 0).length 0 0 1 2 1 1
    rw [gL_lS, gL_lP]
    exact ⟨rfl, rfl, rfl, rfl, rfl, rfl⟩
  · show _ = (tpart [1, 0] 1 ((gL v).lS 0).length, tpart [1, 0] (1 + ((gL v).lS 0).length) ((gL v).lP 0).length, tpart [1, 0] (1 + ((gL v).lS 0).length + ((gL v).lP 0).length) 0, tpart [1, 0] (1 + ((gL v).lS 0).length + ((gL v).lP 0).length + 0) 0)
    rw [gL_lS, gL_lP]
    rfl
def xL (v : Value) (p : Nat × Value) (sv : Value) : Img := (newI (gL v) p).took 0 (⟨5, 0, 1, 0, 2⟩, [1, 0], 0) 0 ([0], [], [], []) sv
theorem xL_ok (v : Value) (p : Nat × Value) (sv : Value) : ∃ y n, Alike (gL v) (xL v p sv) y n := by
  obtain ⟨F, hF⟩ : ∃ F, makeF sL = (F, 0) := ⟨_, make_ok sL_small⟩
  obtain ⟨hr, hl⟩ := make_back hF
  have h0 := new_alike (gL v) p ⟨0, (.slice none 0 0), (.slice none 0 0), (.slice none 0 0), esOf (gL v) [0, 0, 0, 0]⟩ [0, 0, 0, 0] rfl rfl
  exact ⟨_, _, h0.step (gL_small v) (oc := 0) hr tL (fun _ => rL v undef) sv sv sv⟩
theorem xL_a (v : Value) (p : Nat × Value) (sv : Value) : aliveP (xL v p sv).st 7 (xL v p sv).c.age 0 = true := by kernel_rfl
theorem xL_b (v : Value) (p : Nat × Value) (sv : Value) : aliveP (xL v p sv).st 8 (xL v p sv).c.age 0 = false := by kernel_rfl
theorem xL_occ7 (v : Value) (p : Nat × Value) (sv : Value) : (xL v p sv).occ 7 (xL v p sv).c.secs.length = [(0, 5, true)] := by kernel_rfl
theorem xL_occ8 (v : Value) (p : Nat × Value) (sv : Value) : (xL v p sv).occ 8 (xL v p sv).c.secs.length = [(1, -1, false)] := by kernel_rfl
theorem lives11_spec  (w : World) (S : BSet) (hS : (sepL []).sat S w)  :
    Tri Try.prog 7 #[] w S fun u A => u = .bool true ∧ A = [] := by
  refine Tri.enter (l := []) Try.func7 rfl Try.ntmps7 rfl [] (subA rfl) hS ?_
  obtain ⟨F, hF⟩ : ∃ F, makeF (Said.mk 0 1 5 [1, 0]) = (F, 0) := ⟨_, make_ok sL_small⟩
  obtain ⟨hr, hl⟩ := make_back hF
  repeat first
    | (apply WL.q; exact rfl; exact rfl; exact rfl; (first | (apply EvW.assign; exact rfl) | (apply EvW.build; exact PlC.eq; exact ZvC.eq; exact rfl; exact rfl; (focus ((repeat (first | exact Fills.nil | (apply Fills.cons; exact rfl; (first | assumption | exact rfl); exact rfl) | exact SetMany.nil | apply SetMany.cons | apply SetMany.succ)); done)))))
    | refine WC.seq ?_ | refine WC.region ?_ | refine WL.nil ?_ | refine WE.next ?_
  try refine WL.wanted rfl rfl rfl ?_
  (apply WL.buildSlice; exact rfl; exact UndC.eq; exact SzC.eq; exact ZvC.eq; exact rfl; exact rfl; exact rfl; ((focus ((repeat (first | exact Flat.nil | (apply Flat.one; (first | exact rfl | assumption)) | (apply Flat.cons; exact rfl; exact rfl))); done))); exact rfl; exact rfl; intro k0)
  repeat first
    | (apply WL.q; exact rfl; exact rfl; exact rfl; (first | (apply EvW.build; exact PlC.eq; exact ZvC.eq; exact rfl; exact rfl; (focus ((repeat (first | exact Fills.nil | (apply Fills.cons; exact rfl; (first | assumption | exact rfl); exact rfl) | exact SetMany.nil | apply SetMany.cons | apply SetMany.succ)); done)))))
  try refine WL.wanted rfl rfl rfl ?_
  apply WL.callA ([])
  · exact rfl
  · exact rfl
  · exact fun w => Try.call8 _ w
  · (focus ((repeat constructor); done))
  · exact fun w1 S1 hS1 hs1 ho1 => newI_spec (gL (.slice (some ⟨k0, 0, none⟩) 1 1)) w1 S1 hS1 ⟨((ho1 (.blk k0 #[i64 0, i64 0, i64 0] 47) _ (by repeat constructor)).blkRow rfl (fun k u h => by simpa [secC, gL] using h) (by decide)), Sees.nilRow, Sees.nilRow, by show 1 ≤ _; decide, Nat.zero_le _, Nat.zero_le _⟩ (gL_small _)
  rintro _ _ ⟨p, rfl, rfl⟩
  first | refine WL.app4 ?_ | refine WL.app3 ?_ | refine WL.app2 ?_ | refine WL.app1 ?_ | refine WL.app0 ?_ | skip
  repeat first
    | (apply WL.q; exact rfl; exact rfl; exact rfl; (first | (apply EvW.assign; exact rfl)))
    | refine WC.seq ?_ | refine WC.region ?_ | refine WL.nil ?_ | refine WE.next ?_
  try refine WL.wanted rfl rfl rfl ?_
  apply WL.callA ([])
  · exact rfl
  · exact rfl
  · exact fun w => Try.call14 _ w
  · (focus ((repeat constructor); done))
  · exact fun w1 S1 hS1 hs1 ho1 => rmake_spec ⟨0, 1, 5, [1, 0]⟩ w1 S1 hS1 (by show 2 ≤ _; decide) (by show (0 : Int) ≤ _; decide) (by show (1 : Int) ≤ _; decide) (by show (5 : Int) ≤ _; decide)
  rintro _ _ ⟨rfl, rfl⟩
  first | refine WL.app4 ?_ | refine WL.app3 ?_ | refine WL.app2 ?_ | refine WL.app1 ?_ | refine WL.app0 ?_ | skip
  rw [hF]
  dsimp only
  repeat first
    | (apply WL.q; exact rfl; exact rfl; exact rfl; (first | (apply EvW.move; exact rfl) | (apply EvW.assign; exact rfl) | (apply EvW.extract; exact rfl; exact rfl) | (apply EvW.peqN; exact rfl; exact rfl; exact UndC.eq)))
    | refine WC.seq ?_ | refine WC.region ?_ | refine WL.nil ?_ | refine WE.next ?_ | refine WL.wanted rfl rfl rfl ?_
  obtain ⟨v, hv⟩ : ∃ v, (Value.slice (some ⟨k0, 0, none⟩) 1 1) = v := ⟨_, rfl⟩
  rw [hv]
  have hal := new_alike (gL v) p ⟨0, (.slice none 0 0), (.slice none 0 0), (.slice none 0 0), esOf (gL v) [0, 0, 0, 0]⟩ [0, 0, 0, 0] rfl rfl
  try refine WL.wanted rfl rfl rfl ?_
  apply WL.callA ([imgH (newI (gL v) p)])
  · exact rfl
  · exact rfl
  · exact fun w => Try.call9 _ w
  · (focus ((repeat constructor); done))
  · exact fun w1 S1 hS1 hs1 ho1 => takeI_spec (newI (gL v) p) 5 0 F (Said.mk 0 1 5 [1, 0]) 0 0 ([0], [], [], []) (⟨5, 0, 1, 0, 2⟩, [1, 0], 0) w1 S1 hS1 (hal.xok (gL_small v)) (by omega) (by decide) hr tL (by show (0 : Int) ≤ 0; decide) (by show (0 : Int) ≤ _; decide) (fun _ => rL v _) (by show 2 ≤ _; decide)
  rintro _ _ ⟨sv, rfl, rfl⟩
  first | refine WL.app4 ?_ | refine WL.app3 ?_ | refine WL.app2 ?_ | refine WL.app1 ?_ | refine WL.app0 ?_ | skip
  rw [show tookE 0 ((⟨5, 0, 1, 0, 2⟩, [1, 0], 0) : Rcv × List UInt8 × Int) 0 = 0 from by kernel_rfl]
  obtain ⟨y, n, hA⟩ := xL_ok v p sv
  have hX : (newI (gL v) p).took 0 (⟨5, 0, 1, 0, 2⟩, [1, 0], 0) 0 ([0], [], [], []) sv = xL v p sv := rfl
  rw [hX]
  have hok := hA.xok (gL_small v)
  have e1 := xL_a v p sv
  have e2 := xL_b v p sv
  have e3 := xL_occ7 v p sv
  have e4 := xL_occ8 v p sv
  have e5 : p.1 = (xL v p sv).b := by kernel_rfl
  generalize xL v p sv = x at hA hok e1 e2 e3 e4 e5
  rw [e5]
  repeat first
    | (apply WL.q; exact rfl; exact rfl; exact rfl; (first | (apply EvW.move; exact rfl) | (apply EvW.cmpF; exact rfl; exact rfl; exact rfl; omega) | (apply EvW.pickF; exact rfl; exact rfl)))
    | refine WC.seq ?_ | refine WC.region ?_ | refine WL.nil ?_ | refine WE.next ?_ | refine WC.skip ?_ | refine WC.condF rfl ?_ | refine WL.wanted rfl rfl rfl ?_
  try refine WL.wanted rfl rfl rfl ?_
  apply WL.callA ([])
  · exact rfl
  · exact rfl
  · exact fun w => Try.call10 _ w
  · (focus ((repeat constructor); done))
  · exact fun w1 S1 hS1 hs1 ho1 => view_spec x 7 w1 S1 hS1 (img_seen (ho1 (imgH x) _ (by repeat constructor)) hok) (by decide) hok.small (hA.sound 7)
  rintro _ _ ⟨a1, a2, a3, a4, rfl, rfl⟩
  first | refine WL.app4 ?_ | refine WL.app3 ?_ | refine WL.app2 ?_ | refine WL.app1 ?_ | refine WL.app0 ?_ | skip
  obtain ⟨L7, hL7⟩ : ∃ L, x.occ 7 x.c.secs.length = L := ⟨_, rfl⟩
  have hn7 : L7.length = 1 := by rw [← hL7, e3]; rfl
  have hg7 : L7.getD ((0 : Int)).toNat default = (0, 5, true) := by rw [← hL7, e3]; rfl
  rw [hL7]
  repeat first
    | (apply WL.q; exact rfl; exact rfl; exact rfl; (first | (apply EvW.move; exact rfl)))
  try refine WL.wanted rfl rfl rfl ?_
  apply WL.callA ([])
  · exact rfl
  · exact rfl
  · exact fun w => Try.call10 _ w
  · (focus ((repeat constructor); done))
  · exact fun w1 S1 hS1 hs1 ho1 => view_spec x 8 w1 S1 hS1 (img_seen (ho1 (imgH x) _ (by repeat constructor)) hok) (by decide) hok.small (hA.sound 8)
  rintro _ _ ⟨b1, b2, b3, b4, rfl, rfl⟩
  first | refine WL.app4 ?_ | refine WL.app3 ?_ | refine WL.app2 ?_ | refine WL.app1 ?_ | refine WL.app0 ?_ | skip
  obtain ⟨L8, hL8⟩ : ∃ L, x.occ 8 x.c.secs.length = L := ⟨_, rfl⟩
  have hn8 : L8.length = 1 := by rw [← hL8, e4]; rfl
  have hg8 : L8.getD ((0 : Int)).toNat default = (1, -1, false) := by rw [← hL8, e4]; rfl
  rw [hL8]
  skip
  try refine WL.wanted rfl rfl rfl ?_
  (apply WL.alloc; exact rfl; exact ZvC.eq; exact rfl; intro q1)
  skip
  try refine WL.wanted rfl rfl rfl ?_
  (apply WL.alloc; exact rfl; exact ZvC.eq; exact rfl; intro q2)
  (first | refine WL.slOwn (v := a1) (by repeat constructor) ?_ | refine WC.slOwn (v := a1) (by repeat constructor) ?_)
  intro hc_a1 ho_a1
  (first | refine WL.slOwn (v := a2) (by repeat constructor) ?_ | refine WC.slOwn (v := a2) (by repeat constructor) ?_)
  intro hc_a2 ho_a2
  (first | refine WL.slOwn (v := a3) (by repeat constructor) ?_ | refine WC.slOwn (v := a3) (by repeat constructor) ?_)
  intro hc_a3 ho_a3
  (first | refine WL.slOwn (v := a4) (by repeat constructor) ?_ | refine WC.slOwn (v := a4) (by repeat constructor) ?_)
  intro hc_a4 ho_a4
  (first | refine WL.slOwn (v := b1) (by repeat constructor) ?_ | refine WC.slOwn (v := b1) (by repeat constructor) ?_)
  intro hc_b1 ho_b1
  (first | refine WL.slOwn (v := b2) (by repeat constructor) ?_ | refine WC.slOwn (v := b2) (by repeat constructor) ?_)
  intro hc_b2 ho_b2
  (first | refine WL.slOwn (v := b3) (by repeat constructor) ?_ | refine WC.slOwn (v := b3) (by repeat constructor) ?_)
  intro hc_b3 ho_b3
  (first | refine WL.slOwn (v := b4) (by repeat constructor) ?_ | refine WC.slOwn (v := b4) (by repeat constructor) ?_)
  intro hc_b4 ho_b4
  have hall1 : ([a1, a2, a3, a4] : List Value).all (·.oneCell') = true := by
    simp at ho_a1 ho_a2 ho_a3 ho_a4
    simp [ho_a1, ho_a2, ho_a3, ho_a4]
  have hall2 : ([b1, b2, b3, b4] : List Value).all (·.oneCell') = true := by
    simp at ho_b1 ho_b2 ho_b3 ho_b4
    simp [ho_b1, ho_b2, ho_b3, ho_b4]
  clear hc_a1 hc_a2 hc_a3 hc_a4 hc_b1 hc_b2 hc_b3 hc_b4 ho_a1 ho_a2 ho_a3 ho_a4 ho_b1 ho_b2 ho_b3 ho_b4
  repeat first
    | (apply WL.q; exact rfl; exact rfl; exact rfl; (first | (apply EvW.move; exact rfl) | (apply EvW.fieldAddr0; exact rfl; exact FldC.eq) | (apply EvW.load; exact rfl; exact ScalC.eq; (focus ((repeat constructor); done)); exact rfl) | (apply EvW.cmpT; exact rfl; exact rfl; exact rfl; omega) | (apply EvW.pickT; exact rfl; exact rfl) | (apply EvW.lenOwn; exact rfl; exact UndC.eq; (focus ((repeat constructor); done))) | (apply EvW.idxOwn; exact rfl; exact rfl; exact UndC.eq; exact SzC.eq; (focus ((repeat constructor); done)); omega; omega)))
    | refine WC.seq ?_ | refine WC.region ?_ | refine WL.nil ?_ | refine WE.next ?_ | refine WL.wanted rfl rfl rfl ?_ | (apply WL.store; exact rfl; exact rfl; (first | assumption | exact rfl); exact SzC.eq; (first | assumption | exact rfl); (focus ((repeat constructor); done)))
  try refine WL.wanted rfl rfl rfl ?_
  (apply WL.q; exact rfl; exact rfl; exact rfl; (apply EvW.ldElemOwn (xs := L7) (z := (default : Int × Int × Bool)) (f := lkC); exact rfl; exact AggC.eq; exact SzC.eq; exact rfl; exact fun _ => rfl; (focus ((repeat constructor); done)); omega))
  rw [hg7]
  repeat first
    | (apply WL.q; exact rfl; exact rfl; exact rfl; (first | (apply EvW.build; exact PlC.eq; exact ZvC.eq; exact rfl; exact rfl; (focus ((repeat (first | exact Fills.nil | (apply Fills.cons; exact rfl; (first | assumption | exact rfl); exact rfl) | exact SetMany.nil | apply SetMany.cons | apply SetMany.succ)); done)))))
    | refine WL.wanted rfl rfl rfl ?_
  (apply WL.q; exact rfl; exact rfl; exact rfl; (apply EvW.eqMix [(0, false), (1, false), (2, true)] (l := lkC (0, 5, true)); exact rfl; exact rfl; kernel_rfl; exact rfl))
  repeat first
    | (apply WL.q; exact rfl; exact rfl; exact rfl; (first | (apply EvW.move; exact rfl) | (apply EvW.fieldAddr0; exact rfl; exact FldC.eq) | (apply EvW.load; exact rfl; exact ScalC.eq; (focus ((repeat constructor); done)); exact rfl) | (apply EvW.pickT; exact rfl; exact rfl) | (apply EvW.idxOwn; exact rfl; exact rfl; exact UndC.eq; exact SzC.eq; (focus ((repeat constructor); done)); omega; omega)))
    | refine WL.wanted rfl rfl rfl ?_
  try refine WL.wanted rfl rfl rfl ?_
  (apply WL.q; exact rfl; exact rfl; exact rfl; (apply EvW.ldElemOwn (xs := L8) (z := (default : Int × Int × Bool)) (f := lkC); exact rfl; exact AggC.eq; exact SzC.eq; exact rfl; exact fun _ => rfl; (focus ((repeat constructor); done)); omega))
  rw [hg8]
  repeat first
    | (apply WL.q; exact rfl; exact rfl; exact rfl; (first | (apply EvW.build; exact PlC.eq; exact ZvC.eq; exact rfl; exact rfl; (focus ((repeat (first | exact Fills.nil | (apply Fills.cons; exact rfl; (first | assumption | exact rfl); exact rfl) | exact SetMany.nil | apply SetMany.cons | apply SetMany.succ)); done)))))
    | refine WL.wanted rfl rfl rfl ?_
  (apply WL.q; exact rfl; exact rfl; exact rfl; (apply EvW.eqMix [(0, false), (1, false), (2, true)] (l := lkC (1, -1, false)); exact rfl; exact rfl; kernel_rfl; exact rfl))
  repeat first
    | (apply WL.q; exact rfl; exact rfl; exact rfl; (first | (apply EvW.move; exact rfl) | (apply EvW.pickT; exact rfl; exact rfl)))
    | refine WL.wanted rfl rfl rfl ?_
  try refine WL.wanted rfl rfl rfl ?_
  apply WL.callA ([])
  · exact rfl
  · exact rfl
  · exact fun w => Try.call15 _ w
  · (focus ((repeat constructor); done))
  · exact fun w1 S1 hS1 hs1 ho1 => aliveI_spec x 7 0 true w1 S1 hS1 (img_seen (ho1 (imgH x) _ (by repeat constructor)) hok) (by decide) e1
  rintro _ _ ⟨rfl, rfl⟩
  first | refine WL.app4 ?_ | refine WL.app3 ?_ | refine WL.app2 ?_ | refine WL.app1 ?_ | refine WL.app0 ?_ | skip
  repeat first
    | (apply WL.q; exact rfl; exact rfl; exact rfl; (first | (apply EvW.move; exact rfl) | (apply EvW.pickT; exact rfl; exact rfl)))
    | refine WL.wanted rfl rfl rfl ?_
  try refine WL.wanted rfl rfl rfl ?_
  apply WL.callA ([])
  · exact rfl
  · exact rfl
  · exact fun w => Try.call15 _ w
  · (focus ((repeat constructor); done))
  · exact fun w1 S1 hS1 hs1 ho1 => aliveI_spec x 8 0 false w1 S1 hS1 (img_seen (ho1 (imgH x) _ (by repeat constructor)) hok) (by decide) e2
  rintro _ _ ⟨rfl, rfl⟩
  first | refine WL.app4 ?_ | refine WL.app3 ?_ | refine WL.app2 ?_ | refine WL.app1 ?_ | refine WL.app0 ?_ | skip
  repeat first
    | (apply WL.q; exact rfl; exact rfl; exact rfl; (first | (apply EvW.assign; exact rfl) | (apply EvW.pickT; exact rfl; exact rfl) | (apply EvW.notF; exact rfl)))
    | refine WL.nil ?_ | refine WE.next ?_ | refine WC.ret ?_ | refine WL.wanted rfl rfl rfl ?_
  refine WE.keep (xs := []) (by repeat constructor) ?_
  refine WE.ret1 rfl rfl ?_
  exact ⟨rfl, rfl⟩
end Go.Proofs.Ytamofjpadnnppaa
namespace Go.Proofs.Ytamofjpadnnppaa
open Go.RowKit Go.BK Go.ChangeShapes Go.WideShapes Go.ChangeAt Go.ChangeMaps Go.Deep
theorem flat_one {α : Type} (f : α → Value) (l : List α) : (l.flatMap fun a => [f a]) = l.map f := by
  induction l with
  | nil => rfl
  | cons x r ih => rw [List.flatMap_cons, ih]; rfl
theorem wf_i64 {a : Int} (h : (Lit.int .i64 a).wf = true) : -9223372036854775808 ≤ a ∧ a ≤ 9223372036854775807 := by
  simp only [Lit.wf, Bool.and_eq_true, decide_eq_true_eq] at h
  exact h
section
variable {H : Type} {enc : TypeId × Value → H} {P : Program} {W : World}
/-- What is read as type e is f of something of which Q holds, and whose measure is at most the reading's bulk. -/
def OpensU (enc : TypeId × Value → H) (P : Program) (W : World) (e : TypeId) {α : Type} (f : α → List Value) (Q : α → Prop) (μ : α → Nat) : Prop :=
  ∀ n cs x, DataW.trod enc P W 0 (fun _ => true) true n e cs = some x → ∃ a, cs = f a ∧ Q a ∧ μ a ≤ Rows.uptoBulk x.1
theorem OpensU.map {e : TypeId} {α β : Type} {f : α → List Value} {Q : α → Prop} {μ : α → Nat} {f' : β → List Value} {Q' : β → Prop} {μ' : β → Nat} (h : OpensU enc P W e f Q μ) (g : α → β) (hf : ∀ a, Q a → f a = f' (g a)) (hQ : ∀ a, Q a → Q' (g a)) (hμ : ∀ a, Q a → μ' (g a) ≤ μ a) : OpensU enc P W e f' Q' μ' :=
  fun n cs x hx => by
    obtain ⟨a, h1, h2, h3⟩ := h n cs x hx
    exact ⟨g a, by rw [h1, hf a h2], hQ a h2, Nat.le_trans (hμ a h2) h3⟩
theorem OpensU.int {e : TypeId} {k : IntKind} (hu : P.underlying e = some (.int k)) : OpensU enc P W e (fun a : Int => [.int k a]) (fun a => (Lit.int k a).wf = true) (fun _ => 1) :=
  fun n cs x hx => by
    obtain ⟨a, h1, h3, h2⟩ := DataW.trod_int hu hx
    exact ⟨a, h1, h2, by rw [h3]; simp [Rows.uptoBulk]⟩
theorem OpensU.bool {e : TypeId} (hu : P.underlying e = some .bool) : OpensU enc P W e (fun a : Bool => [.bool a]) (fun _ => True) (fun _ => 1) :=
  fun n cs x hx => by
    obtain ⟨a, h1, h3⟩ := DataW.trod_bool hu hx
    exact ⟨a, h1, trivial, by rw [h3]; simp [Rows.uptoBulk]⟩
theorem bulk_sum {α : Type} {μ : α → Nat} {D : Nat → DataW H} : ∀ {xs : List α} {m : Nat}, (∀ i a, xs[i]? = some a → μ a ≤ Rows.uptoBulk (D (m + i))) → (xs.map μ).sum ≤ Rows.uptoBulkAll ((List.range' m xs.length).map D) := by
  intro xs
  induction xs with
  | nil => intro m _; simp [Rows.uptoBulkAll]
  | cons x r ih =>
    intro m h
    have h0 := h 0 x rfl
    have := ih (m := m + 1) fun i a hi => by
      have := h (i + 1) a (by simpa using hi)
      rwa [Nat.add_assoc, Nat.add_comm 1 i]
    simp only [List.map_cons, List.sum_cons, List.length_cons, List.range'_succ, Rows.uptoBulkAll]
    rw [Nat.add_zero] at h0
    omega
theorem OpensU.slice {t e : TypeId} {sz : Nat} {α : Type} {f : α → List Value} {Q : α → Prop} {μ : α → Nat} (ht : P.underlying t = some (.slice e)) (hsz : P.cellsOf e = sz) (hpos : 0 < sz) (hf : ∀ a, (f a).length = sz) (h : OpensU enc P W e f Q μ) :
    OpensU enc P W t (fun p : Value × List α => [p.1]) (fun p => Sees W (fun _ => False) (.row sz p.1 p.2.length (p.2.flatMap f)) ∧ ∀ x ∈ p.2, Q x) (fun p => (p.2.map μ).sum + 1) := by
  intro n cs x hx
  rcases open_slice ht hx with ⟨h1, h2⟩ | ⟨a, len, cap, m, n', D, Pl, rfl, _, hl, _, hmm, rfl, hel⟩
  · exact ⟨(.slice none 0 0, []), h1, ⟨Sees.nilRow, fun x hx => by cases hx⟩, by rw [h2]; simp [Rows.uptoBulk]⟩
  · simp only [↓reduceIte] at hmm
    subst hmm
    have hmem : ∀ i, i < len → ∃ q : α, (∃ cs', W.cells? 0 (a.add (i * P.cellsOf e)) (P.cellsOf e) = some cs' ∧ cs' = f q) ∧ Q q ∧ μ q ≤ Rows.uptoBulk (D i) := fun i hi => by
      obtain ⟨cs', h1, h2⟩ := hel i (by omega)
      obtain ⟨q, h3, h4⟩ := h n' cs' _ h2
      exact ⟨q, ⟨cs', h1, h3⟩, h4⟩
    obtain ⟨xs, hxl, hxs⟩ := exists_list len hmem
    refine ⟨(.slice (some a) len m, xs), rfl, ⟨?_, fun q hq => ?_⟩, ?_⟩
    · simp only []
      rw [hxl]
      have hfl : (xs.flatMap f).length = len * sz := by rw [flat_length hf, hxl]
      refine row_of_cells hfl hl hpos fun k u hk => ?_
      obtain ⟨i, j, q, h1, h2, h3, h4⟩ := flat_at hf hk
      obtain ⟨⟨cs', h5, h6⟩, _⟩ := hxs i q h3
      obtain ⟨_, hlen, hcell⟩ := World.cells?_some h5
      have := hcell j (by rw [hsz]; exact h2)
      rw [add_add, hsz, ← h1] at this
      rw [this, h6, h4]
    · obtain ⟨i, hi, rfl⟩ := List.getElem_of_mem hq
      exact (hxs i _ (List.getElem?_eq_getElem hi)).2.1
    · have := bulk_sum (μ := μ) (D := D) (xs := xs) (m := 0) fun i a hi => by rw [Nat.zero_add]; exact (hxs i a hi).2.2
      rw [hxl, ← List.range_eq_range'] at this
      simp only [Rows.uptoBulk]
      omega
/-- Fields, from a place on. -/
def FOU (enc : TypeId × Value → H) (P : Program) (W : World) (off : Nat) (fs : List Field) {α : Type} (f : α → List Value) (Q : α → Prop) (μ : α → Nat) : Prop :=
  ∀ n (cs : List Value) (xs : List (DataW H × List MemPlace)), cs.length = off + (fs.map fun g => P.cellsOf g.type).sum → xs.length = fs.length →
    (∀ (i : Nat) (g : Field), fs[i]? = some g → DataW.trod enc P W 0 (fun _ => true) true n g.type ((cs.drop g.offset).take (P.cellsOf g.type)) = xs[i]?) → ∃ a, cs.drop off = f a ∧ Q a ∧ μ a ≤ Rows.uptoBulkAll (xs.map (·.1))
theorem FOU.nil {off : Nat} : FOU enc P W off [] (fun _ : Unit => []) (fun _ => True) (fun _ => 0) := fun n cs xs hl _ _ => ⟨(), by simp at hl; simp [hl], trivial, Nat.zero_le _⟩
theorem FOU.cons {off off' : Nat} {g : Field} {fs : List Field} {α β : Type} {f1 : α → List Value} {Q1 : α → Prop} {μ1 : α → Nat} {f2 : β → List Value} {Q2 : β → Prop} {μ2 : β → Nat} (h1 : OpensU enc P W g.type f1 Q1 μ1) (ho : g.offset = off) (hoff : off + P.cellsOf g.type = off') (h2 : FOU enc P W off' fs f2 Q2 μ2) :
    FOU enc P W off (g :: fs) (fun p : α × β => f1 p.1 ++ f2 p.2) (fun p => Q1 p.1 ∧ Q2 p.2) (fun p => μ1 p.1 + μ2 p.2) := by
  intro n cs xs hl hxl hx
  cases xs with
  | nil => simp at hxl
  | cons x xs =>
    subst hoff
    obtain ⟨a, ha, qa, ma⟩ := h1 n _ x (hx 0 g rfl)
    obtain ⟨b, hb, qb, mb⟩ := h2 n cs xs (by simp at hl; omega) (by simpa using hxl) (fun i g' hg => by simpa using hx (i + 1) g' (by simpa using hg))
    refine ⟨(a, b), ?_, ⟨qa, qb⟩, by simp only [List.map_cons, Rows.uptoBulkAll]; omega⟩
    simp only []
    rw [← ha, ← hb, ho, ← List.drop_drop, List.take_append_drop]
theorem OpensU.struct {t : TypeId} {fs : Array Field} {α : Type} {f : α → List Value} {Q : α → Prop} {μ : α → Nat} (hu : P.underlying t = some (.struct fs)) (hc : P.cellsOf t = (fs.toList.map fun g => P.cellsOf g.type).sum) (h : FOU enc P W 0 fs.toList f Q μ) : OpensU enc P W t f Q (fun a => μ a + 1) := by
  intro n cs x hx
  obtain ⟨xs, n', _, rfl, hl, hxl, hel⟩ := DataW.trod_struct hu hx
  obtain ⟨a, h1, h2, h3⟩ := h n' cs xs (by rw [hl, hc]; omega) (by simpa using hxl) (fun i g hg => hel i g (by simpa using hg))
  exact ⟨a, by simpa using h1, h2, by simp only [Rows.uptoBulk]; omega⟩
/-- An argument, opened. -/
theorem OpensU.arg {t : TypeId} {α : Type} {f : α → List Value} {Q : α → Prop} {μ : α → Nat} (h : OpensU enc P W t f Q μ) {v : Value} {d : DataW H} {ps : List MemPlace} (hd : DataW.Trod enc P W 0 (fun _ => true) true t v d ps) : ∃ a, v.cells.toList = f a ∧ Q a ∧ μ a ≤ Rows.uptoBulk d := by
  obtain ⟨n, hn⟩ := hd
  exact h n _ _ hn
theorem argU_agg {t : TypeId} {α : Type} {f : α → List Value} {Q : α → Prop} {μ : α → Nat} (h : OpensU enc P W t f Q μ) {v : Value} {d : DataW H} {ps : List MemPlace} (hag : ∃ cs, v = .agg cs) (hd : DataW.Trod enc P W 0 (fun _ => true) true t v d ps) : ∃ a, v = .agg (f a).toArray ∧ Q a ∧ μ a ≤ Rows.uptoBulk d := by
  obtain ⟨cs, rfl⟩ := hag
  obtain ⟨a, h1, h2⟩ := h.arg hd
  exact ⟨a, by rw [← h1]; simp [Value.cells], h2⟩
/-- A law of the second form: its call answers true, and turns nothing that was there. -/
theorem law_liftedU {C : Checked} {os : Os} {f : FuncId} {fn : Func} {s : ChangeSpec} {F : Stop.Interp} {conds : List PathCond} {tb : TypeId}
    (own : ownKnob C.prog.godebug = none) (started : os.Started) (noInit : C.prog.inits.idxOf? f = none) (hfn : C.prog.funcs[f]? = some fn) (hb : fn.resultTypes = #[tb]) (hub : C.prog.underlying tb = some .bool) (hv : s.vars = [])
    (hl : laidOutB C.prog = true) (hread : (fn.params.toList.all fun t => C.prog.readableRec t && decide (t < C.prog.types.size)) = true)
    (hs : ∀ ds : List (DataW H), ds.length = fn.params.toList.length → s.fn H ds = { results := [.lit (.bool true)], args := ds })
    (witness : ∃ (w : World) (tape : Tape) (i : Input), w.os = os ∧ (w.forCall tape i).Shaped C.prog ∧ i.vars = [] ∧ Input.okWide C.prog (w.forCall tape i) .any w.heap.size f i ∧
      (Rows.OpenSpec.upto s).pre6 enc C.prog fn conds false (w.forCall tape i).memory i.args ∧ (({} : Assume)).holds C.prog (lone (Frame.enter C.prog f i.args .normal) [] (w.forCall tape i)))
    (contract : ∀ (W : World) (base : Nat) (args : Array Value) (ds : List (DataW H)) (p : List MemPlace),
      (∀ (j : Nat) t v, fn.params[j]? = some t → args[j]? = some v → Value.okWide C.prog W .any base t v) → DataW.TrodAll enc C.prog W 0 (fun _ => true) true fn.params.toList args.toList ds p →
      Rows.uptoBulkAll ds ≤ 1048576 → Calls C.prog f args W fun e W' => e = .returned (.bool true) ∧ Below W.heap.size W W') :
    ReturnsInHanded {} C os f .any ((Rows.OpenSpec.upto s).pre6 enc C.prog fn conds false) (((Rows.OpenSpec.upto s).at F).post enc C.prog fn false true false false) := by
  refine returnsInHanded_of_cond (s := Rows.OpenSpec.upto s) (k := Rows.uptoSmall) rfl own started noInit hfn witness ?_
  intro W base args ds gs before hval hW _ hk _
  have hW' := hW
  obtain ⟨p, q, hA, hV, rfl, _, _⟩ := hW
  rw [show (Rows.OpenSpec.upto s).vars = s.vars from rfl, hv] at hV
  obtain ⟨rfl, rfl⟩ := trodVars_none hV
  have hbulk : Rows.uptoBulkAll ds ≤ 1048576 := by
    have : Rows.uptoBulkAll (ds ++ []) ≤ 1048576 := of_decide_eq_true hk
    rwa [List.append_nil] at this
  refine (contract W base args ds p hval hA hbulk).mono fun e W' ⟨he, hbel⟩ => ?_
  have hds : ds.length = fn.params.toList.length := trodAll_length _ _ _ _ hA
  have hlt : ∀ x ∈ p, x.block < W.heap.size := fun x hx => hW'.lt x (List.mem_append_left _ hx)
  have hfn' : ((Rows.OpenSpec.upto s).at F).fn = s.fn := rfl
  have hvars' : ((Rows.OpenSpec.upto s).at F).vars = s.vars := rfl
  refine ⟨_, he, ds, [], p ++ [], [], p, [], hW', ?_, ?_, ?_, hbel.frame _, fun h => by cases h⟩
  · rw [List.append_nil, hfn', hs ds hds, hb]
    simp only [Value.resultList]
    exact ⟨[], [], shut_bool hub true, rfl, rfl⟩
  · rw [List.append_nil, hfn', hs ds hds]
    exact trodAll_stay hl hbel _ _ _ _ (fun t ht => by
      have := List.all_eq_true.1 hread t ht
      simpa using this) hA hlt
  · rw [List.append_nil, hfn', hs ds hds, hvars', hv]; rfl
end
end Go.Proofs.Ytamofjpadnnppaa
namespace Go.Proofs.Ytamofjpadnnppaa
open Go.RowKit Go.BK
theorem Try.own : ownKnob Try.prog.godebug = none := by kernel_rfl
theorem Try.laidOut : laidOutB Try.prog = true := by kernel_rfl
end Go.Proofs.Ytamofjpadnnppaa
namespace Go.Proofs.Ytamofjpadnnppaa
open Go.RowKit Go.BK Go.Deep Go.ChangeShapes Go.WideShapes Go.ChangeAt
theorem okWide_struct {W : World} {P : Program} {t : TypeId} {fs : Array Field} {base : Nat} {v : Value} (ht : P.underlying t = some (.struct fs)) (h : Value.okWide P W .any base t v) : ∃ cs, v = .agg cs := by
  unfold Value.okWide at h
  rw [ht] at h
  obtain ⟨cs, h, _⟩ := h
  exact ⟨cs, h⟩
theorem sum_one {α : Type} (l : List α) : (l.map fun _ => 1).sum = l.length := by
  induction l with
  | nil => rfl
  | cons x r ih => rw [List.map_cons, List.sum_cons, ih, List.length_cons]; omega
section
variable {H : Type} {enc : TypeId × Value → H} {W : World}
/-- A slice of whatever: one cell. -/
theorem opensU_any {P : Program} {t e : TypeId} (ht : P.underlying t = some (.slice e)) : OpensU enc P W t (fun v : Value => [v]) (fun _ => True) (fun _ => 0) := by
  intro n cs x hx
  rcases open_slice ht hx with ⟨h1, h2⟩ | ⟨a, len, cap, m, n', D, Pl, h1, _⟩
  · exact ⟨.slice none 0 0, h1, trivial, Nat.zero_le _⟩
  · exact ⟨.slice (some a) len cap, h1, trivial, Nat.zero_le _⟩
theorem opensU_sec : OpensU enc Try.prog W 47 secC (fun _ => True) (fun _ => 1) :=
  (OpensU.struct Try.underlying47 (by kernel_rfl) (FOU.cons (off' := 1) (OpensU.int Try.underlying3) (by kernel_rfl) (by kernel_rfl) (FOU.cons (off' := 2) (OpensU.int Try.underlying3) (by kernel_rfl) (by kernel_rfl) (FOU.cons (off' := 3) (OpensU.int Try.underlying3) (by kernel_rfl) (by kernel_rfl) FOU.nil)))).map
    (fun p => Sec.mk p.1 p.2.1 p.2.2.1) (fun _ _ => rfl) (fun _ _ => trivial) (fun _ _ => by omega)
theorem opensU_sig : OpensU enc Try.prog W 70 sigC (fun _ => True) (fun _ => 1) :=
  (OpensU.struct Try.underlying70 (by kernel_rfl) (FOU.cons (off' := 1) (OpensU.int Try.underlying3) (by kernel_rfl) (by kernel_rfl) (FOU.cons (off' := 2) (OpensU.int Try.underlying3) (by kernel_rfl) (by kernel_rfl) FOU.nil))).map
    (fun p => Sig.mk p.1 p.2.1) (fun _ _ => rfl) (fun _ _ => trivial) (fun _ _ => by omega)
theorem opensU_timing : OpensU enc Try.prog W 28 (fun x : Int × Int × Int × Int => [i64 x.1, i64 x.2.1, i64 x.2.2.1, i64 x.2.2.2]) (fun x => -9223372036854775808 ≤ x.1 ∧ x.1 ≤ 9223372036854775807) (fun _ => 1) :=
  (OpensU.struct Try.underlying28 (by kernel_rfl) (FOU.cons (off' := 1) (OpensU.int Try.underlying3) (by kernel_rfl) (by kernel_rfl) (FOU.cons (off' := 2) (OpensU.int Try.underlying3) (by kernel_rfl) (by kernel_rfl) (FOU.cons (off' := 3) (OpensU.int Try.underlying3) (by kernel_rfl) (by kernel_rfl) (FOU.cons (off' := 4) (OpensU.int Try.underlying3) (by kernel_rfl) (by kernel_rfl) FOU.nil))))).map
    (fun p => (p.1, p.2.1, p.2.2.1, p.2.2.2.1)) (fun _ _ => rfl) (fun _ h => wf_i64 h.1) (fun _ _ => by omega)
def cfgMu (c : Cfg) : Nat := c.secs.length + c.sigs.length + c.crs.length
structure Cfg.In (c : Cfg) (W : World) : Prop where
  seen : cfgMu c ≤ 1048576 → c.Seen W (fun _ => False)
  age : -9223372036854775808 ≤ c.age ∧ c.age ≤ 9223372036854775807
theorem opensU_config : OpensU enc Try.prog W 30 cfgC (fun c => c.In W) cfgMu :=
  (OpensU.struct Try.underlying30 (by kernel_rfl) (FOU.cons (off' := 1) (OpensU.slice (sz := 3) Try.underlying22 (by kernel_rfl) (by decide) (fun _ => rfl) opensU_sec) (by kernel_rfl) (by kernel_rfl) (FOU.cons (off' := 2) (opensU_any Try.underlying23) (by kernel_rfl) (by kernel_rfl)
    (FOU.cons (off' := 3) (OpensU.slice (sz := 2) Try.underlying24 (by kernel_rfl) (by decide) (fun _ => rfl) opensU_sig) (by kernel_rfl) (by kernel_rfl) (FOU.cons (off' := 4) (OpensU.slice (sz := 1) Try.underlying25 (by kernel_rfl) (by decide) (fun _ => rfl) (OpensU.int Try.underlying3)) (by kernel_rfl) (by kernel_rfl)
    (FOU.cons (off' := 5) (opensU_any Try.underlying26) (by kernel_rfl) (by kernel_rfl) (FOU.cons (off' := 9) opensU_timing (by kernel_rfl) (by kernel_rfl) FOU.nil))))))).map
    (fun p => Cfg.mk p.1.1 p.2.1 p.2.2.1.1 p.2.2.2.1.1 p.2.2.2.2.1 p.1.2 p.2.2.1.2 p.2.2.2.1.2 p.2.2.2.2.2.1.1 p.2.2.2.2.2.1.2.1 p.2.2.2.2.2.1.2.2.1 p.2.2.2.2.2.1.2.2.2) (fun _ _ => rfl)
    (fun p h => ⟨fun hm => ⟨h.1.1, h.2.2.1.1, by have := h.2.2.2.1.1; rw [flat_one] at this; exact this, by unfold cfgMu at hm; omega, by unfold cfgMu at hm; omega, by unfold cfgMu at hm; omega⟩, h.2.2.2.2.2.1⟩)
    (fun p _ => by
      have h1 := sum_one p.1.2
      have h2 := sum_one p.2.2.1.2
      have h3 := sum_one p.2.2.2.1.2
      unfold cfgMu
      simp only [] at h1 h2 h3 ⊢
      omega)
theorem Cfg.In.small {c : Cfg} (hm : cfgMu c ≤ 1048576) : c.Small := by
  unfold cfgMu at hm
  exact ⟨by omega, by omega, by omega⟩
end
end Go.Proofs.Ytamofjpadnnppaa
namespace Go.Proofs.Ytamofjpadnnppaa
open Go.RowKit Go.BK
theorem flat_back : ∀ l : List Int, (∀ x ∈ l, 0 ≤ x ∧ x ≤ 255) → (l.flatMap (be 1)).map (fun c => (c.toNat : Int)) = l
  | [], _ => rfl
  | x :: l, h => by
    have hx := h x (by simp)
    rw [List.flatMap_cons, List.map_append, flat_back l fun y hy => h y (by simp [hy]), be1]
    simp only [List.map_cons, List.map_nil, bytOf_nat, List.cons_append, List.nil_append, List.cons.injEq, and_true]
    omega
theorem tpart_mid (pre : List UInt8) (l : List Int) (rest : List UInt8) (h : ∀ x ∈ l, 0 ≤ x ∧ x ≤ 255) : tpart (pre ++ (l.flatMap (be 1) ++ rest)) pre.length l.length = l := by
  unfold tpart
  rw [List.drop_left' rfl, List.take_left' (flat1_len l), flat_back l h]
theorem inTo_all {l : List Int} {m : Int} (h : l.all (inTo m) = true) (hm : m ≤ 255) : ∀ x ∈ l, 0 ≤ x ∧ x ≤ 255 := by
  intro x hx
  have := List.all_eq_true.1 h x hx
  unfold inTo at this
  rw [Bool.and_eq_true] at this
  have h1 := of_decide_eq_true this.1
  have h2 := of_decide_eq_true this.2
  omega
theorem sBack {h s : Q4} (hk : sOk h s = true) : sGood h (sPay s) ∧ tpart (sPay s) 1 h.la.length = s.la ∧ tpart (sPay s) (1 + h.la.length) h.lb.length = s.lb ∧ tpart (sPay s) (1 + h.la.length + h.lb.length) h.ly.length = s.ly ∧ tpart (sPay s) (1 + h.la.length + h.lb.length + h.ly.length) h.ld.length = s.ld := by
  have hk' := hk
  rw [sOk_iff] at hk'
  obtain ⟨o0, o1, o2, o3⟩ := hk'
  obtain ⟨n0, i0⟩ := okF_iff.1 o0
  obtain ⟨n1, i1⟩ := okF_iff.1 o1
  obtain ⟨n2, i2⟩ := okF_iff.1 o2
  obtain ⟨n3, i3⟩ := okF_iff.1 o3
  have t0 := tpart_mid (be 1 1) s.la (s.lb.flatMap (be 1) ++ (s.ly.flatMap (be 1) ++ (s.ld.flatMap (be 1) ++ []))) (inTo_all i0 (by decide))
  have t1 := tpart_mid (be 1 1 ++ s.la.flatMap (be 1)) s.lb (s.ly.flatMap (be 1) ++ (s.ld.flatMap (be 1) ++ [])) (inTo_all i1 (by decide))
  have t2 := tpart_mid (be 1 1 ++ (s.la.flatMap (be 1) ++ s.lb.flatMap (be 1))) s.ly (s.ld.flatMap (be 1) ++ []) (inTo_all i2 (by decide))
  have t3 := tpart_mid (be 1 1 ++ (s.la.flatMap (be 1) ++ (s.lb.flatMap (be 1) ++ s.ly.flatMap (be 1)))) s.ld [] (inTo_all i3 (by decide))
  simp only [List.length_append, be_length, flat1_len, List.append_assoc, ← Nat.add_assoc, n0, n1, n2, n3] at t0 t1 t2 t3
  have e0 : tpart (sPay s) 1 h.la.length = s.la := t0
  have e1 : tpart (sPay s) (1 + h.la.length) h.lb.length = s.lb := t1
  have e2 : tpart (sPay s) (1 + h.la.length + h.lb.length) h.ly.length = s.ly := t2
  have e3 : tpart (sPay s) (1 + h.la.length + h.lb.length + h.ly.length) h.ld.length = s.ld := t3
  refine ⟨?_, e0, e1, e2, e3⟩
  have e : sOf h (sPay s) s.a s.b s.y s.d = s := by unfold sOf; rw [e0, e1, e2, e3]
  rw [sGood_iff h (sPay s) s.a s.b s.y s.d, e]
  exact ⟨hk, rfl⟩
end Go.Proofs.Ytamofjpadnnppaa
namespace Go.Proofs.Ytamofjpadnnppaa
open Go.RowKit Go.BK
theorem atF_mem2 (x : Int) : ∀ l : List Int, x ∈ l → 0 ≤ atF l x ∧ l.getD (atF l x).toNat 0 = x
  | [], h => by cases h
  | y :: l, h => by
    unfold atF
    by_cases e : y = x
    · rw [if_pos e]; exact ⟨Int.le_refl _, e⟩
    · rw [if_neg e]
      obtain ⟨h1, h2⟩ := atF_mem2 x l ((List.mem_cons.1 h).resolve_left (fun k => e k.symm))
      rw [if_neg (by omega)]
      refine ⟨by omega, ?_⟩
      rw [show (atF l x + 1).toNat = (atF l x).toNat + 1 by omega]
      simpa using h2
theorem mem_idx2 {p : Nat → Bool} {n i : Nat} (hi : i < n) (hp : p i = true) : (i : Int) ∈ idx p n := by
  unfold idx
  exact List.mem_map.2 ⟨i, List.mem_filter.2 ⟨List.mem_range.2 hi, hp⟩, rfl⟩
theorem range_getD2 {α : Type} (f : Nat → α) (d : α) {n i : Nat} (hi : i < n) : ((List.range n).map f).getD i d = f i := by
  rw [List.getD_eq_getElem?_getD, List.getElem?_map, List.getElem?_range hi]; rfl
theorem idx_mono {p q : Nat → Bool} (h : ∀ i, p i = true → q i = true) (n : Nat) : (idx p n).length ≤ (idx q n).length := by
  unfold idx
  rw [List.length_map, List.length_map, ← List.countP_eq_length_filter, ← List.countP_eq_length_filter]
  exact List.countP_mono_left fun i _ hi => h i hi
theorem lP_le (g : Cfg) (oc : Int) : (g.lP oc).length ≤ (g.lS oc).length := idx_mono (fun i h => by unfold Cfg.pP at h; rw [Bool.and_eq_true] at h; exact h.1) _
theorem pay_len {g : Cfg} {oc : Int} {s : Q4} (h : sOk (g.shape oc undef) s = true) (h1 : (g.lS oc).length ≤ 200) (h3 : (g.lC oc).length ≤ 200) (h4 : (g.lG oc).length ≤ 200) : (sPay s).length ≤ 1000 := by
  obtain ⟨o0, o1, o2, o3⟩ := sOk_iff.1 h
  have n0 : s.la.length = (g.lS oc).length := (okF_iff.1 o0).1
  have n1 : s.lb.length = (g.lP oc).length := (okF_iff.1 o1).1
  have n2 : s.ly.length = (g.lC oc).length := (okF_iff.1 o2).1
  have n3 : s.ld.length = (g.lG oc).length := (okF_iff.1 o3).1
  have h2 := lP_le g oc
  unfold sPay
  simp only [List.length_append, be_length, flat1_len, List.length_nil, n0, n1, n2, n3]
  omega
theorem rs_of {h s : Q4} (k : sOk h s = true) : RS h (sPay s) 0 (s.la, s.lb, s.ly, s.ld) := by
  obtain ⟨k1, k2, k3, k4, k5⟩ := sBack k
  exact .inl ⟨k1, rfl, by rw [k2, k3, k4, k5]⟩
/-- All noughts, but the first section's. -/
def sF (g : Cfg) (oc z : Int) (a b y d : Value) : Q4 := ⟨a, b, y, d, (List.replicate (g.lS oc).length 0).set 0 z, List.replicate (g.lP oc).length 0, List.replicate (g.lC oc).length 0, List.replicate (g.lG oc).length 0⟩
theorem inTo_rep (n : Nat) {m : Int} (hm : 0 ≤ m) : (List.replicate n (0 : Int)).all (inTo m) = true := by
  rw [List.all_eq_true]
  intro x hx
  obtain ⟨_, rfl⟩ := List.mem_replicate.1 hx
  unfold inTo
  rw [decide_eq_true (Int.le_refl 0), decide_eq_true hm]; rfl
theorem sF_ok (g : Cfg) (oc : Int) {z : Int} (hz : 0 ≤ z ∧ z ≤ 1) (a b y d : Value) (q : Value) : sOk (g.shape oc q) (sF g oc z a b y d) = true := by
  refine sOk_iff.2 ⟨okF_iff.2 ⟨by show ((List.replicate (g.lS oc).length (0 : Int)).set 0 z).length = _; rw [List.length_set, List.length_replicate]; rfl, ?_⟩, okF_iff.2 ⟨List.length_replicate, inTo_rep _ (by decide)⟩, okF_iff.2 ⟨List.length_replicate, inTo_rep _ (by decide)⟩, okF_iff.2 ⟨List.length_replicate, inTo_rep _ (by decide)⟩⟩
  rw [List.all_eq_true]
  intro x hx
  rcases List.mem_or_eq_of_mem_set hx with h | rfl
  · exact List.all_eq_true.1 (inTo_rep (g.lS oc).length (m := 1) (by decide)) x h
  · unfold inTo
    rw [decide_eq_true hz.1, decide_eq_true hz.2]; rfl
theorem take1 (p n s a now : Int) (t : List UInt8) (h : s ≤ now) (h0 : 0 ≤ s) (h1 : now - s ≤ a) : takeF (Rcv.new p a) now (⟨p, n, s, t⟩, 0) = (⟨s, 0, n, p, a⟩, t, 0) := by
  unfold takeF
  dsimp only
  rw [if_neg (fun h => h rfl), if_neg (fun h => h rfl), if_neg (by omega), if_neg (by show ¬ a < _; omega), if_neg (by show ¬ _ ≤ (-1 : Int); omega)]
  rfl
theorem newI_at (g : Cfg) (p : Nat × Value) {k : Nat} (hk : k < 4) : ∃ q, (newI g p).vs.getD k default = newV g k q := by
  match k, hk with
  | 0, _ => exact ⟨_, rfl⟩
  | 1, _ => exact ⟨_, rfl⟩
  | 2, _ => exact ⟨_, rfl⟩
  | 3, _ => exact ⟨_, rfl⟩
theorem new_take (g : Cfg) (p : Nat × Value) {oc now : Int} (ho : 0 ≤ oc ∧ oc < 4) {r : Said × Int} {t : Rcv × List UInt8 × Int} (h : takeF (Rcv.new oc g.age) now r = t) : takeF ((newI g p).vs.getD oc.toNat default).rc now r = t := by
  obtain ⟨q, hq⟩ := newI_at g p (k := oc.toNat) (by omega)
  have hcast : ((oc.toNat : Nat) : Int) = oc := Int.toNat_of_nonneg ho.1
  rw [hq]
  show takeF (Rcv.new ((oc.toNat : Nat) : Int) g.age) now r = t
  rw [hcast]; exact h
theorem took_b (x : Img) (oc : Int) (t : Rcv × List UInt8 × Int) (k : Int) (z : Got) (sv : Value) : (x.took oc t k z sv).b = x.b := by unfold Img.took; split <;> rfl
theorem lS_at {g : Cfg} {oc : Int} {k : Nat} (hk : k < (g.lS oc).length) : ∃ j, j < g.secs.length ∧ (g.lS oc).getD k 0 = (j : Int) ∧ (g.secs.getD j default).oc = oc := by
  have hm : (g.lS oc).getD k 0 ∈ g.lS oc := by
    rw [List.getD_eq_getElem?_getD, List.getElem?_eq_getElem hk]; exact List.getElem_mem hk
  obtain ⟨j, hj, he⟩ := List.mem_map.1 hm
  obtain ⟨h1, h2⟩ := List.mem_filter.1 hj
  have h1 := List.mem_range.1 h1
  refine ⟨j, h1, he.symm, ?_⟩
  have h3 : g.mine oc j = true := h2
  rw [mine_at g oc j h1] at h3
  exact of_decide_eq_true h3
theorem occ_live {g : Cfg} {x : Img} {y : RImg} {n : Nat} (hA : Alike g x y n) (now : Int) {i : Nat} (hi : i < g.secs.length) {oc : Int} (ho : (g.secs.getD i default).oc = oc) (h : aliveP x.st now x.c.age oc = true) : (x.occ now g.secs.length).getD i default = (((x.vs.getD oc.toNat default)).sd.la.getD (atF (g.lS oc) i).toNat 0, x.st oc, true) := by
  obtain ⟨hr, h0, h1, h2⟩ := alive_pos h
  unfold Img.occ
  rw [range_getD2 _ _ hi]
  unfold Img.lookV
  rw [ocOf_in (by omega) (by rw [hA.cs]; omega), hA.cs, show ((i : Nat) : Int).toNat = i from rfl, ho, h]
  have hp := hA.p oc.toNat (by omega)
  have hcast : ((oc.toNat : Nat) : Int) = oc := Int.toNat_of_nonneg hr.1
  obtain ⟨q, hq⟩ := hp.sh
  rw [hcast] at hq
  have hmem : (i : Int) ∈ g.lS oc := mem_idx2 hi (by unfold Cfg.pS; rw [mine_at g oc i hi, ho]; exact decide_eq_true rfl)
  obtain ⟨m1, m2⟩ := atF_mem2 _ _ hmem
  have m3 := (atF_lo (i : Int) (g.lS oc)).2
  have hst : ((x.vs.getD oc.toNat default)).stamp = x.st oc := rfl
  have hlen : ((x.vs.getD oc.toNat default)).sd.la.length = (g.lS oc).length := by
    rw [hp.sa, hp.la (by rw [← hp.st]; exact h0), hcast]
  have hsel : (selA ((x.vs.getD oc.toNat default)).sh).2 = g.lS oc := by rw [hq]; rfl
  have hsel2 : (selA ((x.vs.getD oc.toNat default)).sd).2 = ((x.vs.getD oc.toNat default)).sd.la := rfl
  rw [hsel, hsel2, lookP_some m1 (by rw [hlen]; exact m3)]
  rfl
/-- What is known behind the first telegram. -/
structure Once (g : Cfg) (x : Img) (oc : Int) (la : List Int) (rc : Rcv) : Prop where
  al : ∃ y n, Alike g x y n
  st : x.st oc = rc.last
  no : ∀ k, 0 ≤ k ∧ k < 4 → k ≠ oc → x.st k = -1
  la : ((x.vs.getD oc.toNat default)).sd.la = la
  rc : ((x.vs.getD oc.toNat default)).rc = rc
  lost : ∀ k, k < 4 → ((x.vs.getD k default)).rc.lost = 0
theorem new_once (g : Cfg) (p : Nat × Value) {oc : Int} (ho : 0 ≤ oc ∧ oc < 4) {z : Got} {t : List UInt8} {l : List UInt8} {a : Int} {m s now : Int} (hsm : g.Small) (hr : readF l = (⟨oc, m, s, t⟩, 0)) (ht : takeF (Rcv.new oc g.age) now (⟨oc, m, s, t⟩, 0) = (⟨s, 0, m, oc, a⟩, t, 0)) (hz : RS (g.shape oc undef) t 0 z) (sv : Value) :
    Once g ((newI g p).took oc (⟨s, 0, m, oc, a⟩, t, 0) 0 z sv) oc z.1 ⟨s, 0, m, oc, a⟩ := by
  have hA0 := new_alike' g p p
  have hcast : ((oc.toNat : Nat) : Int) = oc := Int.toNat_of_nonneg ho.1
  obtain ⟨q, hq⟩ := newI_at g p (k := oc.toNat) (by omega)
  have hrc : ((newI g p).vs.getD oc.toNat default).rc = Rcv.new oc g.age := by rw [hq]; show Rcv.new ((oc.toNat : Nat) : Int) g.age = _; rw [hcast]
  have hA1 := hA0.step (now := now) hsm hr (t := (⟨s, 0, m, oc, a⟩, t, 0)) (by rw [← hA0.rcs, hrc]; exact ht) (fun _ => hz) sv undef undef
  have hl : (newI g p).vs.length = 4 := rfl
  have hg : ∀ k, ((newI g p).took oc (⟨s, 0, m, oc, a⟩, t, 0) 0 z sv).vs.getD k default = if oc.toNat = k then { (newI g p).vs.getD oc.toNat default with rc := ⟨s, 0, m, oc, a⟩, sd := Q4.of sv z, stamp := s } else (newI g p).vs.getD k default := by
    intro k
    unfold Img.took
    rw [if_pos ho]
    dsimp only
    rw [getD_set (by rw [hl]; omega)]
    rfl
  refine ⟨⟨_, _, hA1⟩, ?_, fun k hk hne => ?_, ?_, ?_, fun k hk => ?_⟩
  · show Voice.stamp (List.getD _ _ _) = _
    rw [hg, if_pos rfl]
  · show Voice.stamp (List.getD _ _ _) = _
    rw [hg, if_neg (by omega)]
    obtain ⟨q', hq'⟩ := newI_at g p (k := k.toNat) (by omega)
    rw [hq']; rfl
  · rw [hg, if_pos rfl]; rfl
  · rw [hg, if_pos rfl]
  · rw [hg]
    by_cases e : oc.toNat = k
    · rw [if_pos e]
    · rw [if_neg e]
      obtain ⟨q', hq'⟩ := newI_at g p hk
      rw [hq']; rfl
theorem Once.alive {g : Cfg} {x : Img} {oc : Int} {la : List Int} {rc : Rcv} (h : Once g x oc la rc) (ho : 0 ≤ oc ∧ oc < 4) (h0 : 0 ≤ rc.last) {now : Int} (hn : rc.last ≤ now) : aliveP x.st now x.c.age oc = decide (now - rc.last ≤ g.age) := by
  obtain ⟨y, n, hA⟩ := h.al
  rw [aliveP_in ho, h.st, hA.ca]
  unfold freshF
  rw [decide_eq_true h0, decide_eq_true hn]
  rfl
end Go.Proofs.Ytamofjpadnnppaa
