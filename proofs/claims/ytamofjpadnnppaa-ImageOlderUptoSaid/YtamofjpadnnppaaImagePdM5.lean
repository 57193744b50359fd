/- ImageOlder holds for every input of bulk at most 1048576: what comes late, or twice, or spoilt, is refused, and what is seen stays as it was. Condition: the bulk of the second form. -/
import Derived.Test.YtamofjpadnnppaaImagePdM4
namespace Go.BK
open Go.RowKit
section
variable {P : Program} {w0 : World} {S0 : BSet} {n : Nat} {F : Fr} {A A' r : List HP} {T : TypeId} {pos : String} {af : Array Edge} {v : Value} {dd : Option Tmp} {g : Option (Nat × Bool)}
theorem EffW.callTV {f : FuncId} {z : Operand} {caps : List Value} {args : List Operand} {ats : Array TypeId} {vals : List Value} {A' A1 A2 A3 : List HP} {R : Value → List HP → Prop} (hz : ev F z = some (.func (.func f) #[] caps.toArray)) (hargs : evs F args = some vals)
    (hcall : ∀ w, (callFunc f (vals ++ caps).toArray).run P w = .ok (.enter f (vals ++ caps).toArray) w) (ht : TakeL A1 A A2)
    (hspec : ∀ w S, (sepL A1).sat S w → (∀ B, Sees w0 S0 B → Sees w S B) → (∀ B r, Take B A2 r → Sees w S B) → Tri P f (vals ++ caps).toArray w S R)
    (hR : ∀ v' A', R v' A' → v' = v ∧ A' = A3) (hA : ∀ w, St w0 S0 (A3 ++ A2) w → St w0 S0 A' w) :
    EffW P w0 S0 n F A A' ⟨dd, .call ⟨.value z, args.toArray, ats⟩, T, pos, af, g⟩ v := by
  refine ⟨fun Q K a w ha hs hK => ?_⟩
  have hvals := evs_map ha args vals hargs
  obtain ⟨S, h1, h2, h3⟩ := hs
  obtain ⟨S1, S2, hu, hdis, h4, h5⟩ := ht.star h1
  have hsp := (hspec w S1 h4 (fun B hB => hB.down h2 h3 fun b hb => (hu b).2 (.inl hb)) (fun B r tB => by
    obtain ⟨S3, S4, hu', hd', h6, h7⟩ := tB.star h5
    exact ⟨S3, h6, fun b hb hb' => hdis b hb' ((hu' b).2 (.inl hb))⟩)).go
  have hrun : (execOp a.eval ⟨dd, .call ⟨.value z, args.toArray, ats⟩, T, pos, af, g⟩).run P w = .ok (.enter f (vals ++ caps).toArray) w := by
    have hc := hcall w
    have e2 : vals.toArray ++ caps.toArray = (vals ++ caps).toArray := by simp
    have e1 : (args.toArray.map a.eval) = vals.toArray := by simp [hvals]
    simp only [execOp, resolve, e1, ha.eval hz, Deferred.ofValue, Sem.run_bind, Sem.run_pure, Result.andThen, invoke, Array.empty_append, e2]
    exact hc
  unfold Oper.wp
  rw [hrun]
  refine hsp.mono ?_
  rintro e w' ⟨v', A', rfl, hRR, S', h6, h7, h8⟩
  obtain ⟨rfl, rfl⟩ := hR v' A' hRR
  refine hK w' (hA w' ?_)
  have hext : Ext S w w' := ⟨h7.os, h7.tape, h7.output, h7.size, fun b hb hnb => h7.keep b hb fun h => hnb ((hu b).2 (.inl h))⟩
  refine ⟨fun b => S' b ∨ S2 b, sepL_append ⟨S', S2, fun _ => Iff.rfl, fun b hb hb2 => ?_, h6, (sepL A2).loc h5 fun b hb => h7.keep b ((sepL A2).bnd h5 hb) fun h => hdis b h hb⟩, h2.step hext h3, fun b hb => ?_⟩
  · rcases h8 b hb with h | h
    · exact hdis b h hb2
    · have := (sepL A2).bnd h5 hb2; omega
  · rcases hb with hb | hb
    · rcases h8 b hb with h | h
      · exact h3 b ((hu b).2 (.inl h))
      · exact .inr (Nat.le_trans h2.size h)
    · exact h3 b ((hu b).2 (.inr hb))
/-- A call of a function value that gives back what it took. -/
theorem EvW.callBV {f : FuncId} {z : Operand} {caps : List Value} {args : List Operand} {ats : Array TypeId} {vals : List Value} (A1 : List HP) {A2 : List HP} {R : Value → List HP → Prop} (hz : ev F z = some (.func (.func f) #[] caps.toArray)) (hargs : evs F args = some vals)
    (hcall : ∀ w, (callFunc f (vals ++ caps).toArray).run P w = .ok (.enter f (vals ++ caps).toArray) w) (ht : TakeL A1 A A2)
    (hspec : ∀ w S, (sepL A1).sat S w → (∀ B, Sees w0 S0 B → Sees w S B) → (∀ B r, Take B A2 r → Sees w S B) → Tri P f (vals ++ caps).toArray w S R)
    (hR : ∀ v' A', R v' A' → v' = v ∧ A' = A1) : EvW P w0 S0 n F A ⟨dd, .call ⟨.value z, args.toArray, ats⟩, T, pos, af, g⟩ v :=
  ⟨(EffW.callTV (A' := A) hz hargs hcall ht hspec hR (fun _ h => h.mono fun S w hs => ht.unstar (sepL_unappend hs))).go⟩
end
end Go.BK
namespace Go.Proofs.Ytamofjpadnnppaa
open Go.RowKit Go.BK
theorem rep_set (n : Nat) (z : Int) (h : 0 < n) : over (List.replicate n (i64 0)) (Int.toNat 0 * 1 + 0) [i64 z] = ((List.replicate n (0 : Int)).set 0 z).map i64 := by
  cases n with
  | zero => exact absurd h (by decide)
  | succ n => simp [over, List.replicate_succ]
theorem rep_row (n : Nat) : List.replicate n (i64 0) = (List.replicate n (0 : Int)).map i64 := by simp
theorem take_same {x : Img} {oc : Int} {t : Rcv × List UInt8 × Int} (h2 : t.2.2 ≠ 0) (h1 : t.1 = ((x.vs.getD oc.toNat default)).rc) (hl : x.vs.length = 4) (k : Int) (z : Got) (sv : Value) : x.took oc t k z sv = x := by
  unfold Img.took
  split
  · rename_i ho
    have e : ((x.vs.getD oc.toNat default)).got t k z sv = (x.vs.getD oc.toNat default) := by unfold Voice.got; rw [if_pos h2, h1]
    rw [e]
    have e2 : x.vs.set oc.toNat ((x.vs.getD oc.toNat default)) = x.vs := by
      rw [List.getD_eq_getElem?_getD, List.getElem?_eq_getElem (show oc.toNat < x.vs.length by rw [hl]; omega)]
      exact List.set_getElem_self _
    rw [e2]
  · rfl
theorem takeI_same (x : Img) (now oc : Int) (l : List UInt8) (y : Said) (e k : Int) (w : World) (S : BSet) (hS : (sepL [imgH x]).sat S w) (hx : x.Ok) (ho : 0 ≤ oc ∧ oc < 4) (hl : l.length ≤ 140737488355328) (hw : now ≤ 9223372036854775807) (hr : readF l = (y, e)) (ht : takeF ((x.vs.getD oc.toNat default)).rc now (y, e) = (((x.vs.getD oc.toNat default)).rc, [], k)) (hk : k ≠ 0) (h0 : ((x.vs.getD oc.toNat default)).rc.lost = 0) :
    Tri Try.prog 9 #[ptr x.b 0, i64 now, i64 oc, str l] w S fun u A => u = i64 k ∧ A = [imgH x] := by
  obtain ⟨j, z, hz⟩ := RS.ex ((x.vs.getD oc.toNat default)).sh []
  refine tri_turn (takeI_spec x now oc l y e j z _ w S hS hx hl hw hr ht (by omega) (by omega) (fun _ => hz) (by simp)) ?_
  rintro _ _ ⟨sv, rfl, rfl⟩
  refine ⟨_, ⟨?_, rfl⟩, fun w h => by rw [take_same hk rfl hx.len j z sv] at h; exact h⟩
  unfold tookE
  rw [if_pos ho, if_pos hk]
theorem lost_nought {x : Img} (h : ∀ k, k < 4 → ((x.vs.getD k default)).rc.lost = 0) (hl : x.vs.length = 4) : x.lost 4 = 0 := by
  have key : ∀ i, i ≤ 4 → x.lost i = 0 := by
    intro i
    induction i with
    | zero => intro _; rfl
    | succ i ih => intro hi; rw [lostI_step x i (by omega), ih (by omega), h i (by omega)]; rfl
  exact key 4 (Nat.le_refl 4)
theorem read_x : ∃ e, readF [120] = (Said.none, e) ∧ e ≠ 0 := ⟨1, by kernel_rfl, by decide⟩
theorem stale (oc age ago : Int) (h : 0 ≤ ago) (t : List UInt8) : ∃ k, takeF (Rcv.mk 100 0 1 oc age) 100 (⟨oc, 2, 100 - ago, t⟩, 0) = (Rcv.mk 100 0 1 oc age, [], k) ∧ k ≠ 0 := by
  unfold takeF
  dsimp only
  rw [if_neg (fun h => h rfl), if_neg (fun h => h rfl), if_neg (by omega)]
  by_cases h1 : age < 100 - (100 - ago)
  · rw [if_pos h1]; exact ⟨17, rfl, by decide⟩
  · rw [if_neg h1, if_pos (by omega)]; exact ⟨18, rfl, by decide⟩
theorem early (oc age : Int) (t : List UInt8) : takeF (Rcv.mk 100 0 1 oc age) 100 (⟨oc, 1, 101, t⟩, 0) = (Rcv.mk 100 0 1 oc age, [], 19) := by
  unfold takeF
  dsimp only
  rw [if_neg (fun h => h rfl), if_neg (fun h => h rfl), if_pos (by decide)]
theorem wrong (m : Rcv) (now e : Int) (h : e ≠ 0) : takeF m now (Said.none, e) = (m, [], e) := by
  unfold takeF
  rw [if_pos h]
set_option maxHeartbeats 2000000 in
theorem tellO_spec (g : Cfg) (oc m s z : Int) (hb q1 : Nat) (a b d e : Value) (t F : List UInt8) (w : World) (S : BSet) (hS : (sepL []).sat S w) (h1 : Sees w S (.blk hb [a, b, d, e].toArray 51)) (h2 : Sees w S (.blk q1 [i64 oc].toArray 3)) (hq : (⟨a, b, d, e, g.lS oc, g.lP oc, g.lC oc, g.lG oc⟩ : Q4).Seen w S) (hall : ([a, b, d, e] : List Value).all (·.oneCell') = true) (hz : 0 ≤ z ∧ z ≤ 1) (b0 : (g.lS oc).length ≠ 0) (b3 : (g.lS oc).length ≤ 200) (b4 : (g.lG oc).length ≤ 200) (b5 : (g.lC oc).length ≤ 200) (ht : sPay (sF g oc z undef undef undef undef) = t) (hF : makeF ⟨oc, m, s, t⟩ = (F, 0)) (hoc : 0 ≤ oc ∧ oc < 4) (hm : m ≤ 9223372036854775807) (hs : s ≤ 9223372036854775807) :
    Tri Try.prog 23 #[i64 m, i64 s, i64 z, ptr hb 0, ptr q1 0] w S fun u A => u = str F ∧ A = [] := by
  refine Tri.enter (l := [i64 m, i64 s, i64 z, ptr hb 0, ptr q1 0]) Try.func23 rfl Try.ntmps23 rfl [(0, i64 m), (1, i64 s), (2, i64 z), (3, ptr hb 0), (4, ptr q1 0)] (subA rfl) hS ?_
  have hP := lP_le g oc
  have ha : Sees w S (.row 1 a (g.lS oc).length ((g.lS oc).map i64)) := hq.a
  have hbb : Sees w S (.row 1 b (g.lP oc).length ((g.lP oc).map i64)) := hq.b
  have hy : Sees w S (.row 1 d (g.lC oc).length ((g.lC oc).map i64)) := hq.y
  have hd : Sees w S (.row 1 e (g.lG oc).length ((g.lG oc).map i64)) := hq.d
  repeat first
    | (apply WL.q; exact rfl; exact rfl; exact rfl; (first | (apply EvW.assign; exact rfl)))
    | refine WC.seq ?_ | refine WC.region ?_ | refine WL.nil ?_ | refine WE.next ?_
  repeat refine WC.seq ?_
  refine WC.keep (xs := []) (by repeat constructor) ?_
  apply WC.par _ (fun c : Ch => [.own 3 1 ((c 3).2) (g.lS oc).length (List.replicate (g.lS oc).length (i64 0)), .own 3 1 ((c 7).2) (g.lP oc).length (List.replicate (g.lP oc).length (i64 0)), .own 3 1 ((c 11).2) (g.lC oc).length (List.replicate (g.lC oc).length (i64 0)), .own 3 1 ((c 15).2) (g.lG oc).length (List.replicate (g.lG oc).length (i64 0)), .blk (c 17).1 #[(.slice none 0 0), (.slice none 0 0), (.slice none 0 0), (.slice none 0 0)] 54, .blk (c 17).1 #[(c 3).2, (c 7).2, (c 11).2, (c 15).2] 54]) [some 3, some 7, some 11, some 15, some 17, some 18] [none, none, none, none, some 18, none] [(3, fun x => x.2), (7, fun x => x.2), (11, fun x => x.2), (15, fun x => x.2), (17, fun x => ptr x.1 0)] Try.mixed
  · (focus ((repeat (first | exact Restr.nil | (apply Restr.keep; exact rfl; exact rfl) | (apply Restr.drop; exact rfl))); done))
  · intro c; exact (by repeat constructor)
  · exact rfl
  · decide +kernel
  · decide +kernel
  · intro c
    (apply Par.quiet _ [false, false, false, false, false, false]; exact rfl; decide +kernel; exact rfl; intro R; refine ⟨_, (by repeat constructor), ?_⟩;
         (first | (apply EvW.fieldAddr0; exact rfl; exact FldC.eq)))
    (apply Par.quiet _ [false, false, false, false, false, false]; exact rfl; decide +kernel; exact rfl; intro R; refine ⟨_, (by repeat constructor), ?_⟩;
         (first | (apply EvW.ldSeen; exact rfl; exact ScalC.eq; assumption; (first | exact rfl | assumption))))
    (apply Par.quiet _ [false, false, false, false, false, false]; exact rfl; decide +kernel; exact rfl; intro R; refine ⟨_, (by repeat constructor), ?_⟩;
         (first | (apply EvW.lenRow; exact rfl; exact UndC.eq; assumption)))
    apply Par.new _ [false, false, false, false, false, false] [true, false, false, false, false, false] [false, false, false, false, false, false]
    · exact rfl
    · exact rfl
    · decide +kernel
    · intro R
      refine ⟨_, _, _, (by repeat constructor), (by repeat constructor), (fun x => (by repeat constructor)), ?_⟩
      (apply NewW.make1; exact rfl; exact rfl; exact UndC.eq; exact SzC.eq; exact ByC.eq; exact ZvC.eq; exact rfl; omega; omega; (simp only [Int.toNat_natCast]; omega); exact fun _ => rfl)
    (apply Par.quiet _ [false, false, false, false, false, false]; exact rfl; decide +kernel; exact rfl; intro R; refine ⟨_, (by repeat constructor), ?_⟩;
         (first | (apply EvW.fieldAddr0; exact rfl; exact FldC.eq)))
    (apply Par.quiet _ [false, false, false, false, false, false]; exact rfl; decide +kernel; exact rfl; intro R; refine ⟨_, (by repeat constructor), ?_⟩;
         (first | (apply EvW.ldSeen; exact rfl; exact ScalC.eq; assumption; (first | exact rfl | assumption))))
    (apply Par.quiet _ [false, false, false, false, false, false]; exact rfl; decide +kernel; exact rfl; intro R; refine ⟨_, (by repeat constructor), ?_⟩;
         (first | (apply EvW.lenRow; exact rfl; exact UndC.eq; assumption)))
    apply Par.new _ [false, false, false, false, false, false] [false, true, false, false, false, false] [false, false, false, false, false, false]
    · exact rfl
    · exact rfl
    · decide +kernel
    · intro R
      refine ⟨_, _, _, (by repeat constructor), (by repeat constructor), (fun x => (by repeat constructor)), ?_⟩
      (apply NewW.make1; exact rfl; exact rfl; exact UndC.eq; exact SzC.eq; exact ByC.eq; exact ZvC.eq; exact rfl; omega; omega; (simp only [Int.toNat_natCast]; omega); exact fun _ => rfl)
    (apply Par.quiet _ [false, false, false, false, false, false]; exact rfl; decide +kernel; exact rfl; intro R; refine ⟨_, (by repeat constructor), ?_⟩;
         (first | (apply EvW.fieldAddr0; exact rfl; exact FldC.eq)))
    (apply Par.quiet _ [false, false, false, false, false, false]; exact rfl; decide +kernel; exact rfl; intro R; refine ⟨_, (by repeat constructor), ?_⟩;
         (first | (apply EvW.ldSeen; exact rfl; exact ScalC.eq; assumption; (first | exact rfl | assumption))))
    (apply Par.quiet _ [false, false, false, false, false, false]; exact rfl; decide +kernel; exact rfl; intro R; refine ⟨_, (by repeat constructor), ?_⟩;
         (first | (apply EvW.lenRow; exact rfl; exact UndC.eq; assumption)))
    apply Par.new _ [false, false, false, false, false, false] [false, false, true, false, false, false] [false, false, false, false, false, false]
    · exact rfl
    · exact rfl
    · decide +kernel
    · intro R
      refine ⟨_, _, _, (by repeat constructor), (by repeat constructor), (fun x => (by repeat constructor)), ?_⟩
      (apply NewW.make1; exact rfl; exact rfl; exact UndC.eq; exact SzC.eq; exact ByC.eq; exact ZvC.eq; exact rfl; omega; omega; (simp only [Int.toNat_natCast]; omega); exact fun _ => rfl)
    (apply Par.quiet _ [false, false, false, false, false, false]; exact rfl; decide +kernel; exact rfl; intro R; refine ⟨_, (by repeat constructor), ?_⟩;
         (first | (apply EvW.fieldAddr0; exact rfl; exact FldC.eq)))
    (apply Par.quiet _ [false, false, false, false, false, false]; exact rfl; decide +kernel; exact rfl; intro R; refine ⟨_, (by repeat constructor), ?_⟩;
         (first | (apply EvW.ldSeen; exact rfl; exact ScalC.eq; assumption; (first | exact rfl | assumption))))
    (apply Par.quiet _ [false, false, false, false, false, false]; exact rfl; decide +kernel; exact rfl; intro R; refine ⟨_, (by repeat constructor), ?_⟩;
         (first | (apply EvW.lenRow; exact rfl; exact UndC.eq; assumption)))
    apply Par.new _ [false, false, false, false, false, false] [false, false, false, true, false, false] [false, false, false, false, false, false]
    · exact rfl
    · exact rfl
    · decide +kernel
    · intro R
      refine ⟨_, _, _, (by repeat constructor), (by repeat constructor), (fun x => (by repeat constructor)), ?_⟩
      (apply NewW.make1; exact rfl; exact rfl; exact UndC.eq; exact SzC.eq; exact ByC.eq; exact ZvC.eq; exact rfl; omega; omega; (simp only [Int.toNat_natCast]; omega); exact fun _ => rfl)
    apply Par.quiet _ [true, true, true, true, false, false]
    · exact rfl
    · decide +kernel
    · exact rfl
    · intro R
      refine ⟨_, (by repeat constructor), ?_⟩
      (apply EvW.slOwn ((c 3).2); (focus ((repeat constructor); done)); intro h2 _; apply EvW.slOwn ((c 7).2); (focus ((repeat constructor); done)); intro h5 _; apply EvW.slOwn ((c 11).2); (focus ((repeat constructor); done)); intro h8 _; apply EvW.slOwn ((c 15).2); (focus ((repeat constructor); done)); intro h9 _; apply EvW.build; exact PlC.eq; exact ZvC.eq; exact rfl; exact rfl; (focus ((repeat (first | exact Fills.nil | (apply Fills.cons; exact rfl; (first | assumption | exact rfl); exact rfl) | exact SetMany.nil | apply SetMany.cons | apply SetMany.succ)); done)))
    (apply Par.new _ [false, false, false, false, false, false] [false, false, false, false, true, false] [false, false, false, false, false, false]; exact rfl; exact rfl; decide +kernel; intro R; refine ⟨_, _, _, (by repeat constructor), (by repeat constructor), (fun x => (by repeat constructor)), ?_⟩; (apply NewW.alloc; exact ZvC.eq; exact rfl; exact fun _ => rfl))
    apply Par.eff _ [false, false, false, false, true, false] [false, false, false, false, false, true] [true, true, true, true, false, false]
    · exact rfl
    · exact rfl
    · decide +kernel
    · intro R
      refine ⟨_, _, _, (by repeat constructor), (by repeat constructor), (by repeat constructor), ?_⟩
      (apply EffW.slOwn ((c 3).2); (focus ((repeat constructor); done)); intro _ h2; apply EffW.slOwn ((c 7).2); (focus ((repeat constructor); done)); intro _ h5; apply EffW.slOwn ((c 11).2); (focus ((repeat constructor); done)); intro _ h8; apply EffW.slOwn ((c 15).2); (focus ((repeat constructor); done)); intro _ h9; (apply EffW.store; exact rfl; exact rfl; exact rfl; exact SzC.eq; (simp [h2, h5, h8, h9]); (focus ((repeat constructor); done))))
    exact Par.nil
  · repeat (first | exact AllN.nil | (apply AllN.cons; (intro c x; (repeat (first | exact IndA.nil | (apply IndA.skip; decide +kernel) | apply IndA.same))))) 
  · repeat (first | exact AllN.nil | (apply AllN.cons; (intro c x; (repeat (first | exact IndT.nil | (apply IndT.skip; decide +kernel) | apply IndT.same))))) 
  · exact fun _ => rfl
  intro c
  refine ⟨_, (by repeat constructor), ?_⟩
  apply WE.writ
  · (focus ((repeat (first | exact Writ.nil | apply Writ.some | apply Writ.none)); done))
  generalize (c 17).1 = b17
  generalize (c 3).2 = sa
  generalize (c 7).2 = sb
  generalize (c 11).2 = sy
  generalize (c 15).2 = sd
  repeat first
    | (apply WL.q; exact rfl; exact rfl; exact rfl; (first | (apply EvW.move; exact rfl) | (apply EvW.fieldAddr0; exact rfl; exact FldC.eq) | (apply EvW.load; exact rfl; exact ScalC.eq; (focus ((repeat constructor); done)); exact rfl) | (apply EvW.idxOwn; exact rfl; exact rfl; exact UndC.eq; exact SzC.eq; (focus ((repeat constructor); done)); omega; omega)))
    | refine WC.seq ?_ | refine WC.region ?_ | refine WE.next ?_
  (apply WL.stOwn; exact rfl; exact rfl; exact rfl; exact SzC.eq; exact rfl; exact rfl; (focus ((repeat constructor); done)))
  · rw [List.length_replicate]; show 0 * 1 + 0 + 1 ≤ _; omega
  · rw [rep_set _ _ (by omega)]; exact .head
  repeat first
    | refine WC.seq ?_ | refine WC.region ?_ | refine WL.nil ?_ | refine WE.next ?_
  rw [rep_row, rep_row, rep_row]
  refine WL.keep (xs := [.own 3 1 sa (sF g oc z sa sb sy sd).la.length ((sF g oc z sa sb sy sd).la.map i64), .own 3 1 sb (sF g oc z sa sb sy sd).lb.length ((sF g oc z sa sb sy sd).lb.map i64), .own 3 1 sy (sF g oc z sa sb sy sd).ly.length ((sF g oc z sa sb sy sd).ly.map i64), .own 3 1 sd (sF g oc z sa sb sy sd).ld.length ((sF g oc z sa sb sy sd).ld.map i64), .blk b17 #[sa, sb, sy, sd] 54]) (by
    simp only [sF, List.length_set, List.length_replicate]
    (focus ((repeat constructor); done))) ?_
  have hok0 : sOk (⟨a, b, d, e, g.lS oc, g.lP oc, g.lC oc, g.lG oc⟩ : Q4) (sF g oc z sa sb sy sd) = true := sF_ok g oc hz sa sb sy sd undef
  obtain ⟨hln1, hln2, hln3, hln4⟩ : (sF g oc z sa sb sy sd).la.length = (g.lS oc).length ∧ (sF g oc z sa sb sy sd).lb.length = (g.lP oc).length ∧ (sF g oc z sa sb sy sd).ly.length = (g.lC oc).length ∧ (sF g oc z sa sb sy sd).ld.length = (g.lG oc).length := ⟨by show ((List.replicate (g.lS oc).length (0 : Int)).set 0 z).length = _; rw [List.length_set, List.length_replicate], List.length_replicate, List.length_replicate, List.length_replicate⟩
  (apply WL.q; exact rfl; exact rfl; exact rfl; (apply EvW.ldAggSeen; exact rfl; exact AggC.eq; exact SzC.eq; exact h1; (focus ((repeat (first | exact SubL.nil | apply SubL.cons | apply SubL.succ)); done))))
  repeat first
    | (apply WL.q; exact rfl; exact rfl; exact rfl; (first | (apply EvW.loadAgg; exact rfl; exact AggC.eq; exact SzC.eq; (focus ((repeat constructor); done)); (focus ((repeat (first | exact SubL.nil | apply SubL.cons | apply SubL.succ)); done)))))
  try refine WL.wanted rfl rfl rfl ?_
  apply WL.callA ([])
  · exact rfl
  · exact rfl
  · exact fun w => Try.call13 _ w
  · (focus ((repeat constructor); done))
  · exact fun w1 S1 hS1 hs1 ho1 => rstatus_spec (⟨a, b, d, e, g.lS oc, g.lP oc, g.lC oc, g.lG oc⟩ : Q4) (sF g oc z sa sb sy sd) w1 S1 hS1 (hq.down hs1) ⟨(ho1 (.own 3 1 sa (sF g oc z sa sb sy sd).la.length ((sF g oc z sa sb sy sd).la.map i64)) _ (by repeat constructor)).own, (ho1 (.own 3 1 sb (sF g oc z sa sb sy sd).lb.length ((sF g oc z sa sb sy sd).lb.map i64)) _ (by repeat constructor)).own, (ho1 (.own 3 1 sy (sF g oc z sa sb sy sd).ly.length ((sF g oc z sa sb sy sd).ly.map i64)) _ (by repeat constructor)).own, (ho1 (.own 3 1 sd (sF g oc z sa sb sy sd).ld.length ((sF g oc z sa sb sy sd).ld.map i64)) _ (by repeat constructor)).own, by omega, by omega, by omega, by omega⟩
  rintro _ _ ⟨rfl, rfl⟩
  first | refine WL.app4 ?_ | refine WL.app3 ?_ | refine WL.app2 ?_ | refine WL.app1 ?_ | refine WL.app0 ?_ | skip
  rw [if_pos hok0, if_pos hok0, show sPay (sF g oc z sa sb sy sd) = t from ht]
  have hok1 : sOk (g.shape oc undef) (sF g oc z undef undef undef undef) = true := sF_ok g oc hz _ _ _ _ undef
  have htl := pay_len hok1 b3 b5 b4
  rw [ht] at htl
  repeat first
    | (apply WL.q; exact rfl; exact rfl; exact rfl; (first | (apply EvW.move; exact rfl) | (apply EvW.assign; exact rfl) | (apply EvW.ldSeen; exact rfl; exact ScalC.eq; assumption; (first | exact rfl | assumption)) | (apply EvW.extract; exact rfl; exact rfl)))
    | refine WC.seq ?_ | refine WC.region ?_ | refine WL.nil ?_ | refine WE.next ?_
  try refine WL.wanted rfl rfl rfl ?_
  apply WL.callA ([])
  · exact rfl
  · exact rfl
  · exact fun w => Try.call14 _ w
  · (focus ((repeat constructor); done))
  · exact fun w1 S1 hS1 hs1 ho1 => rmake_spec ⟨oc, m, s, t⟩ w1 S1 hS1 (by simp only []; omega) (by simp only []; omega) hm hs
  rintro _ _ ⟨rfl, rfl⟩
  first | refine WL.app4 ?_ | refine WL.app3 ?_ | refine WL.app2 ?_ | refine WL.app1 ?_ | refine WL.app0 ?_ | skip
  rw [hF]
  dsimp only
  repeat first
    | (apply WL.q; exact rfl; exact rfl; exact rfl; (first | (apply EvW.move; exact rfl) | (apply EvW.assign; exact rfl) | (apply EvW.extract; exact rfl; exact rfl)))
    | refine WC.seq ?_ | refine WC.region ?_ | refine WL.nil ?_ | refine WE.next ?_ | refine WC.ret ?_
  refine WE.bare ?_
  refine WE.ret1 rfl rfl ?_
  exact ⟨rfl, rfl⟩
set_option maxHeartbeats 4000000 in
set_option maxRecDepth 8000 in
theorem imageOlder_law (g : Cfg) (oc0 ago0 : Int) (w : World) (S : BSet) (hS : (sepL []).sat S w) (hg : g.Seen w S) (hsm : g.Small) :
    Tri Try.prog 6 #[.agg (cfgC g).toArray, i64 oc0, i64 ago0] w S fun u A => u = .bool true := by
  refine Tri.enter (l := [.agg (cfgC g).toArray, i64 oc0, i64 ago0]) Try.func6 rfl Try.ntmps6 rfl [(0, .agg (cfgC g).toArray), (1, i64 oc0), (2, i64 ago0)] (subA rfl) hS ?_
  have hgs := hg.secs
  have hsmS := hsm.s
  obtain ⟨oc, hoc, ho0⟩ : ∃ s : Int, IntKind.u64.wrap oc0 % 4 = s ∧ (0 ≤ s ∧ s < 4) := ⟨_, rfl, by omega, by omega⟩
  obtain ⟨ago, hag, hg0⟩ : ∃ s : Int, IntKind.u64.wrap ago0 % 5 = s ∧ (0 ≤ s ∧ s < 5) := ⟨_, rfl, by omega, by omega⟩
  repeat first
    | refine WC.seq ?_ | refine WC.region ?_
  try refine WL.wanted rfl rfl rfl ?_
  (apply WL.box; exact rfl; exact rfl; exact rfl; intro q0)
  skip
  try refine WL.wanted rfl rfl rfl ?_
  (apply WL.box; exact rfl; exact rfl; exact rfl; intro q1)
  repeat first
    | (apply WL.q; exact rfl; exact rfl; exact rfl; (first | (apply EvW.assign; exact rfl)))
    | refine WC.seq ?_ | refine WC.region ?_ | refine WL.nil ?_ | refine WE.next ?_
  try refine WL.wanted rfl rfl rfl ?_
  apply WL.callA ([])
  · exact rfl
  · exact rfl
  · exact fun w => Try.call7 _ w
  · (focus ((repeat constructor); done))
  · exact fun w1 S1 hS1 hs1 ho1 => lives11_spec w1 S1 hS1
  rintro _ _ ⟨rfl, rfl⟩
  first | refine WL.app4 ?_ | refine WL.app3 ?_ | refine WL.app2 ?_ | refine WL.app1 ?_ | refine WL.app0 ?_ | skip
  repeat first
    | (apply WL.q; exact rfl; exact rfl; exact rfl; (first | (apply EvW.move; exact rfl) | (apply EvW.assign; exact rfl) | (apply EvW.load; exact rfl; exact ScalC.eq; (focus ((repeat constructor); done)); exact rfl) | (apply EvW.convN; exact rfl; exact UndC.eq; exact UndC.eq; (first | (refine i64_in ?_ ?_ <;> omega) | (constructor <;> simp only [IntKind.min, IntKind.max, IntKind.signed, IntKind.bits, ↓reduceIte, Bool.false_eq_true] <;> omega))) | (apply EvW.conv; exact rfl; exact UndC.eq; exact UndC.eq) | (apply EvW.notT; exact rfl) | (apply EvW.loadAgg; exact rfl; exact AggC.eq; exact SzC.eq; (focus ((repeat constructor); done)); (focus ((repeat (first | exact SubL.nil | apply SubL.cons | apply SubL.succ)); done))) | (apply EvW.remW; exact rfl; exact rfl; exact rfl; omega)))
    | refine WC.seq ?_ | refine WC.region ?_ | refine WL.nil ?_ | refine WE.next ?_ | refine WC.skip ?_ | refine WC.condF rfl ?_ | (apply WL.store; exact rfl; exact rfl; (first | assumption | exact rfl); exact SzC.eq; (first | assumption | exact rfl); (focus ((repeat constructor); done)))
  rw [hoc, hag]
  clear hoc hag
  try refine WL.wanted rfl rfl rfl ?_
  apply WL.callA ([])
  · exact rfl
  · exact rfl
  · exact fun w => Try.call12 _ w
  · (focus ((repeat constructor); done))
  · exact fun w1 S1 hS1 hs1 ho1 => rshape_spec g oc w1 S1 hS1 (hg.down hs1)
  rintro _ _ ⟨a, b, d, e, rfl, rfl⟩
  first | refine WL.app4 ?_ | refine WL.app3 ?_ | refine WL.app2 ?_ | refine WL.app1 ?_ | refine WL.app0 ?_ | skip
  skip
  try refine WL.wanted rfl rfl rfl ?_
  (apply WL.alloc; exact rfl; exact ZvC.eq; exact rfl; intro hb)
  (first | refine WL.slOwn (v := a) (by repeat constructor) ?_ | refine WC.slOwn (v := a) (by repeat constructor) ?_)
  intro hc_a ho_a
  (first | refine WL.slOwn (v := b) (by repeat constructor) ?_ | refine WC.slOwn (v := b) (by repeat constructor) ?_)
  intro hc_b ho_b
  (first | refine WL.slOwn (v := d) (by repeat constructor) ?_ | refine WC.slOwn (v := d) (by repeat constructor) ?_)
  intro hc_d ho_d
  (first | refine WL.slOwn (v := e) (by repeat constructor) ?_ | refine WC.slOwn (v := e) (by repeat constructor) ?_)
  intro hc_e ho_e
  have hall : ([a, b, d, e] : List Value).all (·.oneCell') = true := by
    simp at ho_a ho_b ho_d ho_e
    simp [ho_a, ho_b, ho_d, ho_e]
  clear hc_a hc_b hc_d hc_e ho_a ho_b ho_d ho_e
  have hP := lP_le g oc
  by_cases b0 : ((g.lS oc).length : Int) = 0
  · repeat first
      | (apply WL.q; exact rfl; exact rfl; exact rfl; (first | (apply EvW.move; exact rfl) | (apply EvW.assign; exact rfl) | (apply EvW.fieldAddr0; exact rfl; exact FldC.eq) | (apply EvW.load; exact rfl; exact ScalC.eq; (focus ((repeat constructor); done)); exact rfl) | (apply EvW.cmpT; exact rfl; exact rfl; exact rfl; omega) | (apply EvW.pickT; exact rfl; exact rfl) | (apply EvW.lenOwn; exact rfl; exact UndC.eq; (focus ((repeat constructor); done)))))
      | refine WC.seq ?_ | refine WC.region ?_ | refine WL.nil ?_ | refine WE.next ?_ | refine WC.condT rfl ?_ | refine WC.ret ?_ | refine WE.passRet ?_ | refine WL.unwanted rfl rfl rfl rfl ?_ | (apply WL.store; exact rfl; exact rfl; (first | assumption | exact rfl); exact SzC.eq; (first | assumption | exact rfl); (focus ((repeat constructor); done)))
    refine WE.bare ?_
    refine WE.ret1 rfl rfl ?_
    rfl
  by_cases b1 : 200 < ((g.lS oc).length : Int)
  · repeat first
      | (apply WL.q; exact rfl; exact rfl; exact rfl; (first | (apply EvW.move; exact rfl) | (apply EvW.assign; exact rfl) | (apply EvW.fieldAddr0; exact rfl; exact FldC.eq) | (apply EvW.load; exact rfl; exact ScalC.eq; (focus ((repeat constructor); done)); exact rfl) | (apply EvW.cmpT; exact rfl; exact rfl; exact rfl; omega) | (apply EvW.cmpF; exact rfl; exact rfl; exact rfl; omega) | (apply EvW.pickT; exact rfl; exact rfl) | (apply EvW.pickF; exact rfl; exact rfl) | (apply EvW.lenOwn; exact rfl; exact UndC.eq; (focus ((repeat constructor); done)))))
      | refine WC.seq ?_ | refine WC.region ?_ | refine WL.nil ?_ | refine WE.next ?_ | refine WC.condT rfl ?_ | refine WC.ret ?_ | refine WE.passRet ?_ | refine WL.wanted rfl rfl rfl ?_ | refine WL.unwanted rfl rfl rfl rfl ?_ | (apply WL.store; exact rfl; exact rfl; (first | assumption | exact rfl); exact SzC.eq; (first | assumption | exact rfl); (focus ((repeat constructor); done)))
    refine WE.bare ?_
    refine WE.ret1 rfl rfl ?_
    rfl
  by_cases b2 : 200 < ((g.lG oc).length : Int)
  · repeat first
      | (apply WL.q; exact rfl; exact rfl; exact rfl; (first | (apply EvW.move; exact rfl) | (apply EvW.assign; exact rfl) | (apply EvW.fieldAddr0; exact rfl; exact FldC.eq) | (apply EvW.load; exact rfl; exact ScalC.eq; (focus ((repeat constructor); done)); exact rfl) | (apply EvW.cmpT; exact rfl; exact rfl; exact rfl; omega) | (apply EvW.cmpF; exact rfl; exact rfl; exact rfl; omega) | (apply EvW.pickT; exact rfl; exact rfl) | (apply EvW.pickF; exact rfl; exact rfl) | (apply EvW.lenOwn; exact rfl; exact UndC.eq; (focus ((repeat constructor); done)))))
      | refine WC.seq ?_ | refine WC.region ?_ | refine WL.nil ?_ | refine WE.next ?_ | refine WC.condT rfl ?_ | refine WC.ret ?_ | refine WE.passRet ?_ | refine WL.wanted rfl rfl rfl ?_ | refine WL.unwanted rfl rfl rfl rfl ?_ | (apply WL.store; exact rfl; exact rfl; (first | assumption | exact rfl); exact SzC.eq; (first | assumption | exact rfl); (focus ((repeat constructor); done)))
    refine WE.bare ?_
    refine WE.ret1 rfl rfl ?_
    rfl
  by_cases b3 : 200 < ((g.lC oc).length : Int)
  · repeat first
      | (apply WL.q; exact rfl; exact rfl; exact rfl; (first | (apply EvW.move; exact rfl) | (apply EvW.assign; exact rfl) | (apply EvW.fieldAddr0; exact rfl; exact FldC.eq) | (apply EvW.load; exact rfl; exact ScalC.eq; (focus ((repeat constructor); done)); exact rfl) | (apply EvW.cmpT; exact rfl; exact rfl; exact rfl; omega) | (apply EvW.cmpF; exact rfl; exact rfl; exact rfl; omega) | (apply EvW.pickT; exact rfl; exact rfl) | (apply EvW.pickF; exact rfl; exact rfl) | (apply EvW.lenOwn; exact rfl; exact UndC.eq; (focus ((repeat constructor); done)))))
      | refine WC.seq ?_ | refine WC.region ?_ | refine WL.nil ?_ | refine WE.next ?_ | refine WC.condT rfl ?_ | refine WC.ret ?_ | refine WE.passRet ?_ | refine WL.wanted rfl rfl rfl ?_ | refine WL.unwanted rfl rfl rfl rfl ?_ | (apply WL.store; exact rfl; exact rfl; (first | assumption | exact rfl); exact SzC.eq; (first | assumption | exact rfl); (focus ((repeat constructor); done)))
    refine WE.bare ?_
    refine WE.ret1 rfl rfl ?_
    rfl
  by_cases b4 : g.age < 1
  · repeat first
      | (apply WL.q; exact rfl; exact rfl; exact rfl; (first | (apply EvW.move; exact rfl) | (apply EvW.assign; exact rfl) | (apply EvW.fieldAddr0; exact rfl; exact FldC.eq) | (apply EvW.fieldAddr; exact rfl; exact FldC.eq) | (apply EvW.load; exact rfl; exact ScalC.eq; (focus ((repeat constructor); done)); exact rfl) | (apply EvW.cmpT; exact rfl; exact rfl; exact rfl; omega) | (apply EvW.cmpF; exact rfl; exact rfl; exact rfl; omega) | (apply EvW.pickT; exact rfl; exact rfl) | (apply EvW.pickF; exact rfl; exact rfl) | (apply EvW.lenOwn; exact rfl; exact UndC.eq; (focus ((repeat constructor); done)))))
      | refine WC.seq ?_ | refine WC.region ?_ | refine WL.nil ?_ | refine WE.next ?_ | refine WC.condT rfl ?_ | refine WC.ret ?_ | refine WE.passRet ?_ | refine WL.wanted rfl rfl rfl ?_ | refine WL.unwanted rfl rfl rfl rfl ?_ | (apply WL.store; exact rfl; exact rfl; (first | assumption | exact rfl); exact SzC.eq; (first | assumption | exact rfl); (focus ((repeat constructor); done)))
    refine WE.bare ?_
    refine WE.ret1 rfl rfl ?_
    rfl
  by_cases b5 : 8 < g.age
  · repeat first
      | (apply WL.q; exact rfl; exact rfl; exact rfl; (first | (apply EvW.move; exact rfl) | (apply EvW.assign; exact rfl) | (apply EvW.fieldAddr0; exact rfl; exact FldC.eq) | (apply EvW.fieldAddr; exact rfl; exact FldC.eq) | (apply EvW.load; exact rfl; exact ScalC.eq; (focus ((repeat constructor); done)); exact rfl) | (apply EvW.cmpT; exact rfl; exact rfl; exact rfl; omega) | (apply EvW.cmpF; exact rfl; exact rfl; exact rfl; omega) | (apply EvW.pickF; exact rfl; exact rfl) | (apply EvW.lenOwn; exact rfl; exact UndC.eq; (focus ((repeat constructor); done)))))
      | refine WC.seq ?_ | refine WC.region ?_ | refine WL.nil ?_ | refine WE.next ?_ | refine WC.condT rfl ?_ | refine WC.ret ?_ | refine WE.passRet ?_ | refine WL.wanted rfl rfl rfl ?_ | (apply WL.store; exact rfl; exact rfl; (first | assumption | exact rfl); exact SzC.eq; (first | assumption | exact rfl); (focus ((repeat constructor); done)))
    refine WE.bare ?_
    refine WE.ret1 rfl rfl ?_
    rfl
  have hok1 : sOk (g.shape oc undef) (sF g oc 1 undef undef undef undef) = true := sF_ok g oc (by decide) _ _ _ _ undef
  have hok0 : sOk (g.shape oc undef) (sF g oc 0 undef undef undef undef) = true := sF_ok g oc (by decide) _ _ _ _ undef
  have htl1 := pay_len hok1 (by omega) (by omega) (by omega)
  have htl0 := pay_len hok0 (by omega) (by omega) (by omega)
  have hz := rs_of hok1
  obtain ⟨t1, ht1⟩ : ∃ t, sPay (sF g oc 1 undef undef undef undef) = t := ⟨_, rfl⟩
  obtain ⟨t0, ht0⟩ : ∃ t, sPay (sF g oc 0 undef undef undef undef) = t := ⟨_, rfl⟩
  rw [ht1] at htl1 hz
  rw [ht0] at htl0
  have hms1 : (Said.mk oc 1 100 t1).small := ⟨by simp only []; omega, by show (0 : Int) ≤ 1 ∧ (1 : Int) < 65536; decide, by show (0 : Int) ≤ 100 ∧ (100 : Int) < 4294967296; decide, htl1⟩
  have hms2 : (Said.mk oc 2 (100 - ago) t0).small := ⟨by simp only []; omega, by show (0 : Int) ≤ 2 ∧ (2 : Int) < 65536; decide, by simp only []; omega, htl0⟩
  have hms3 : (Said.mk oc 1 101 t0).small := ⟨by simp only []; omega, by show (0 : Int) ≤ 1 ∧ (1 : Int) < 65536; decide, by show (0 : Int) ≤ 101 ∧ (101 : Int) < 4294967296; decide, htl0⟩
  obtain ⟨F1, hF1⟩ : ∃ F, makeF (Said.mk oc 1 100 t1) = (F, 0) := ⟨_, make_ok hms1⟩
  obtain ⟨F2, hF2⟩ : ∃ F, makeF (Said.mk oc 2 (100 - ago) t0) = (F, 0) := ⟨_, make_ok hms2⟩
  obtain ⟨F3, hF3⟩ : ∃ F, makeF (Said.mk oc 1 101 t0) = (F, 0) := ⟨_, make_ok hms3⟩
  obtain ⟨hr1, hl1⟩ := make_back hF1
  obtain ⟨hr2, hl2⟩ := make_back hF2
  obtain ⟨hr3, hl3⟩ := make_back hF3
  have hT := take1 oc 1 100 g.age 100 t1 (by decide) (by decide) (by omega)
  repeat first
    | (apply WL.q; exact rfl; exact rfl; exact rfl; (first | (apply EvW.move; exact rfl) | (apply EvW.assign; exact rfl) | (apply EvW.fieldAddr0; exact rfl; exact FldC.eq) | (apply EvW.fieldAddr; exact rfl; exact FldC.eq) | (apply EvW.load; exact rfl; exact ScalC.eq; (focus ((repeat constructor); done)); exact rfl) | (apply EvW.cmpF; exact rfl; exact rfl; exact rfl; omega) | (apply EvW.pickF; exact rfl; exact rfl) | (apply EvW.loadAgg; exact rfl; exact AggC.eq; exact SzC.eq; (focus ((repeat constructor); done)); (focus ((repeat (first | exact SubL.nil | apply SubL.cons | apply SubL.succ)); done))) | (apply EvW.makeFunc; exact rfl) | (apply EvW.lenOwn; exact rfl; exact UndC.eq; (focus ((repeat constructor); done)))))
    | refine WC.seq ?_ | refine WC.region ?_ | refine WL.nil ?_ | refine WE.next ?_ | refine WC.skip ?_ | refine WC.condF rfl ?_ | refine WL.wanted rfl rfl rfl ?_ | (apply WL.store; exact rfl; exact rfl; (first | assumption | exact rfl); exact SzC.eq; (first | assumption | exact rfl); (focus ((repeat constructor); done)))
  try refine WL.wanted rfl rfl rfl ?_
  apply WL.callA ([])
  · exact rfl
  · exact rfl
  · exact fun w => Try.call8 _ w
  · (focus ((repeat constructor); done))
  · exact fun w1 S1 hS1 hs1 ho1 => newI_spec g w1 S1 hS1 (hg.down hs1) hsm
  rintro _ _ ⟨p, rfl, rfl⟩
  first | refine WL.app4 ?_ | refine WL.app3 ?_ | refine WL.app2 ?_ | refine WL.app1 ?_ | refine WL.app0 ?_ | skip
  have hA0 := new_alike' g p p
  have hlo := hA0.lostA (by decide) oc.toNat
  have hxt := new_take g p ho0 hT
  have htk : tookE oc ((⟨100, 0, 1, oc, g.age⟩, t1, 0) : Rcv × List UInt8 × Int) 0 = 0 := by unfold tookE; rw [if_pos ho0, if_neg (fun h => h rfl)]
  repeat first
    | (apply WL.q; exact rfl; exact rfl; exact rfl; (first | (apply EvW.assign; exact rfl)))
    | refine WC.seq ?_ | refine WL.nil ?_ | refine WE.next ?_
  repeat refine WC.seq ?_
  refine WC.keep (xs := [.blk q0 (cfgC g).toArray 30, .blk q1 #[i64 oc] 3, .blk hb #[a, b, d, e] 51, .own 3 1 (a) (g.lS oc).length ((g.lS oc).map i64), .own 3 1 (b) (g.lP oc).length ((g.lP oc).map i64), .own 3 1 (d) (g.lC oc).length ((g.lC oc).map i64), .own 3 1 (e) (g.lG oc).length ((g.lG oc).map i64), imgH (newI g p)]) (by repeat constructor) ?_
  apply WC.par _ (fun c : Ch => [.blk q0 (cfgC g).toArray 30, .blk q1 #[i64 oc] 3, .blk hb #[a, b, d, e] 51, .own 3 1 (a) (g.lS oc).length ((g.lS oc).map i64), .own 3 1 (b) (g.lP oc).length ((g.lP oc).map i64), .own 3 1 (d) (g.lC oc).length ((g.lC oc).map i64), .own 3 1 (e) (g.lG oc).length ((g.lG oc).map i64), imgH (newI g p), imgH ((newI g p).took oc (⟨100, 0, 1, oc, g.age⟩, t1, 0) 0 ((List.replicate (g.lS oc).length (0 : Int)).set 0 1, List.replicate (g.lP oc).length (0 : Int), List.replicate (g.lC oc).length (0 : Int), List.replicate (g.lG oc).length (0 : Int)) (c 4).2)]) [none, none, none, none, none, none, none, none, some 4] [none, none, none, none, none, none, none, some 4, none] [(4, fun x => i64 0)] Try.mixed
  · (focus ((repeat (first | exact Restr.nil | (apply Restr.keep; exact rfl; exact rfl) | (apply Restr.drop; exact rfl))); done))
  · intro c; exact (by repeat constructor)
  · exact rfl
  · decide +kernel
  · decide +kernel
  · intro c
    (apply Par.quiet _ [true, true, true, true, true, true, true, true, false]; exact rfl; decide +kernel; exact rfl; intro R; refine ⟨_, (by repeat constructor), ?_⟩;
         (first | (apply EvW.move; exact rfl)))
    (apply Par.quiet _ [true, true, true, true, true, true, true, true, false]; exact rfl; decide +kernel; exact rfl; intro R; refine ⟨_, (by repeat constructor), ?_⟩;
         (first | (apply EvW.load; exact rfl; exact ScalC.eq; (focus ((repeat constructor); done)); exact rfl)))
    (apply Par.quiet _ [true, true, true, true, true, true, true, true, false]; exact rfl; decide +kernel; exact rfl; intro R; refine ⟨_, (by repeat constructor), ?_⟩;
         (first | (apply EvW.move; exact rfl)))
    apply Par.quiet _ [true, true, true, true, true, true, true, true, false]
    · exact rfl
    · decide +kernel
    · exact rfl
    · intro R
      refine ⟨_, (by repeat constructor), ?_⟩
      (apply EvW.callBV []; exact rfl; exact rfl; exact fun w => Try.call23 _ w; exact TakeL.nil; exact fun w1 S1 hS1 hs1 ho1 => tellO_spec g oc 1 100 1 hb q1 a b d e t1 F1 w1 S1 hS1 (ho1 (.blk hb #[a, b, d, e] 51) _ (by repeat constructor)) (ho1 (.blk q1 #[i64 oc] 3) _ (by repeat constructor)) ⟨(ho1 (.own 3 1 (a) (g.lS oc).length ((g.lS oc).map i64)) _ (by repeat constructor)).own, (ho1 (.own 3 1 (b) (g.lP oc).length ((g.lP oc).map i64)) _ (by repeat constructor)).own, (ho1 (.own 3 1 (d) (g.lC oc).length ((g.lC oc).map i64)) _ (by repeat constructor)).own, (ho1 (.own 3 1 (e) (g.lG oc).length ((g.lG oc).map i64)) _ (by repeat constructor)).own, by simp only []; omega, by simp only []; omega, by simp only []; omega, by simp only []; omega⟩ hall (by decide) (by omega) (by omega) (by omega) (by omega) ht1 hF1 ho0 (by omega) (by omega); exact fun _ _ h => h)
    apply Par.new _ [false, false, false, false, false, false, false, true, false] [false, false, false, false, false, false, false, false, true] [true, true, true, true, true, true, true, false, false]
    · exact rfl
    · exact rfl
    · decide +kernel
    · intro R
      refine ⟨_, _, _, (by repeat constructor), (by repeat constructor), (fun x => (by repeat constructor)), ?_⟩
      apply NewW.callA ([imgH (newI g p)]) (fun x => [imgH ((newI g p).took oc (⟨100, 0, 1, oc, g.age⟩, t1, 0) 0 ((List.replicate (g.lS oc).length (0 : Int)).set 0 1, List.replicate (g.lP oc).length (0 : Int), List.replicate (g.lC oc).length (0 : Int), List.replicate (g.lG oc).length (0 : Int)) x.2)])
      · exact rfl
      · exact fun w => Try.call9 _ w
      · (focus ((repeat constructor); done))
      · exact fun w1 S1 hS1 hs1 ho1 => (by have h := takeI_spec (newI g p) 100 oc F1 (Said.mk oc 1 100 t1) 0 0 ((List.replicate (g.lS oc).length (0 : Int)).set 0 1, List.replicate (g.lP oc).length (0 : Int), List.replicate (g.lC oc).length (0 : Int), List.replicate (g.lG oc).length (0 : Int)) (⟨100, 0, 1, oc, g.age⟩, t1, 0) w1 S1 hS1 (hA0.xok hsm) (by omega) (by decide) hr1 hxt hlo.1 hlo.2 (hA0.rs hz) (by simp only []; omega); rw [htk] at h; exact h)
      · rintro _ _ ⟨sv, rfl, rfl⟩; exact ⟨(0, sv), rfl, rfl⟩
      · exact fun x _ h => TakeT.st (by (focus ((repeat (first | exact TakeT.tail | apply TakeT.cons | exact Take.head | apply Take.tail | apply TakeT.drop)); done))) h
    (apply Par.quiet _ [true, true, true, true, true, true, true, false, true]; exact rfl; decide +kernel; exact rfl; intro R; refine ⟨_, (by repeat constructor), ?_⟩;
         (first | (apply EvW.cmpF; exact rfl; exact rfl; exact rfl; omega)))
    exact Par.nil
  · repeat (first | exact AllN.nil | (apply AllN.cons; (intro c x; (repeat (first | exact IndA.nil | (apply IndA.skip; decide +kernel) | apply IndA.same))))) 
  · repeat (first | exact AllN.nil | (apply AllN.cons; (intro c x; (repeat (first | exact IndT.nil | (apply IndT.skip; decide +kernel) | apply IndT.same))))) 
  · exact fun _ => rfl
  intro c
  refine ⟨_, (by repeat constructor), ?_⟩
  apply WE.writ
  · (focus ((repeat (first | exact Writ.nil | apply Writ.some | apply Writ.none)); done))
  generalize (c 4).2 = sv
  have hO := new_once g p ho0 hsm hr1 hT hz sv
  have e5 := took_b (newI g p) oc ((⟨100, 0, 1, oc, g.age⟩, t1, 0) : Rcv × List UInt8 × Int) 0 ((List.replicate (g.lS oc).length (0 : Int)).set 0 1, List.replicate (g.lP oc).length (0 : Int), List.replicate (g.lC oc).length (0 : Int), List.replicate (g.lG oc).length (0 : Int)) sv
  have hO2 : Once g ((newI g p).took oc (⟨100, 0, 1, oc, g.age⟩, t1, 0) 0 ((List.replicate (g.lS oc).length (0 : Int)).set 0 1, List.replicate (g.lP oc).length (0 : Int), List.replicate (g.lC oc).length (0 : Int), List.replicate (g.lG oc).length (0 : Int)) sv) oc ((List.replicate (g.lS oc).length (0 : Int)).set 0 1) ⟨100, 0, 1, oc, g.age⟩ := hO
  generalize Img.took (newI g p) oc ((⟨100, 0, 1, oc, g.age⟩, t1, 0) : Rcv × List UInt8 × Int) 0 ((List.replicate (g.lS oc).length (0 : Int)).set 0 1, List.replicate (g.lP oc).length (0 : Int), List.replicate (g.lC oc).length (0 : Int), List.replicate (g.lG oc).length (0 : Int)) sv = x at hO2 e5
  have e6 : p.1 = x.b := e5.symm
  rw [e6]
  clear hO
  obtain ⟨y, n, hA⟩ := hO2.al
  have hok := hA.xok hsm
  have hrc := hO2.rc
  obtain ⟨k2, hk2, hk2n⟩ := stale oc g.age ago hg0.1 t0
  have hk3 := early oc g.age t0
  obtain ⟨k4, hk4, hk4n⟩ := read_x
  have hk5 := wrong (Rcv.mk 100 0 1 oc g.age) 100 k4 hk4n
  rw [← hrc] at hk2 hk3 hk5
  have hlz := hO2.lost oc.toNat (by omega)
  repeat first
    | refine WC.seq ?_ | refine WE.next ?_ | refine WC.skip ?_ | refine WC.condF rfl ?_
  repeat refine WC.seq ?_
  refine WC.keep (xs := [.blk q0 (cfgC g).toArray 30, .blk q1 #[i64 oc] 3, .blk hb #[a, b, d, e] 51, .own 3 1 (a) (g.lS oc).length ((g.lS oc).map i64), .own 3 1 (b) (g.lP oc).length ((g.lP oc).map i64), .own 3 1 (d) (g.lC oc).length ((g.lC oc).map i64), .own 3 1 (e) (g.lG oc).length ((g.lG oc).map i64), imgH x]) (by repeat constructor) ?_
  apply WC.par _ (fun c : Ch => [.blk q0 (cfgC g).toArray 30, .blk q1 #[i64 oc] 3, .blk hb #[a, b, d, e] 51, .own 3 1 (a) (g.lS oc).length ((g.lS oc).map i64), .own 3 1 (b) (g.lP oc).length ((g.lP oc).map i64), .own 3 1 (d) (g.lC oc).length ((g.lC oc).map i64), .own 3 1 (e) (g.lG oc).length ((g.lG oc).map i64), imgH x]) [none, none, none, none, none, none, none, none] [none, none, none, none, none, none, none, none] [] Try.mixed
  · (focus ((repeat (first | exact Restr.nil | (apply Restr.keep; exact rfl; exact rfl) | (apply Restr.drop; exact rfl))); done))
  · intro c; exact (by repeat constructor)
  · exact rfl
  · decide +kernel
  · decide +kernel
  · intro c
    (apply Par.quiet _ [true, true, true, true, true, true, true, true]; exact rfl; decide +kernel; exact rfl; intro R; refine ⟨_, (by repeat constructor), ?_⟩;
         (first | (apply EvW.move; exact rfl)))
    (apply Par.quiet _ [true, true, true, true, true, true, true, true]; exact rfl; decide +kernel; exact rfl; intro R; refine ⟨_, (by repeat constructor), ?_⟩;
         (first | (apply EvW.load; exact rfl; exact ScalC.eq; (focus ((repeat constructor); done)); exact rfl)))
    (apply Par.quiet _ [true, true, true, true, true, true, true, true]; exact rfl; decide +kernel; exact rfl; intro R; refine ⟨_, (by repeat constructor), ?_⟩;
         (first | (apply EvW.move; exact rfl)))
    (apply Par.quiet _ [true, true, true, true, true, true, true, true]; exact rfl; decide +kernel; exact rfl; intro R; refine ⟨_, (by repeat constructor), ?_⟩;
         (first | (apply EvW.move; exact rfl)))
    (apply Par.quiet _ [true, true, true, true, true, true, true, true]; exact rfl; decide +kernel; exact rfl; intro R; refine ⟨_, (by repeat constructor), ?_⟩;
         (first | (apply EvW.arN; exact rfl; exact rfl; exact rfl; (first | (refine i64_in ?_ ?_ <;> omega) | (constructor <;> simp only [IntKind.min, IntKind.max, IntKind.signed, IntKind.bits, ↓reduceIte, Bool.false_eq_true] <;> omega)))))
    apply Par.quiet _ [true, true, true, true, true, true, true, true]
    · exact rfl
    · decide +kernel
    · exact rfl
    · intro R
      refine ⟨_, (by repeat constructor), ?_⟩
      (apply EvW.callBV []; exact rfl; exact rfl; exact fun w => Try.call23 _ w; exact TakeL.nil; exact fun w1 S1 hS1 hs1 ho1 => tellO_spec g oc 2 (100 - ago) 0 hb q1 a b d e t0 F2 w1 S1 hS1 (ho1 (.blk hb #[a, b, d, e] 51) _ (by repeat constructor)) (ho1 (.blk q1 #[i64 oc] 3) _ (by repeat constructor)) ⟨(ho1 (.own 3 1 (a) (g.lS oc).length ((g.lS oc).map i64)) _ (by repeat constructor)).own, (ho1 (.own 3 1 (b) (g.lP oc).length ((g.lP oc).map i64)) _ (by repeat constructor)).own, (ho1 (.own 3 1 (d) (g.lC oc).length ((g.lC oc).map i64)) _ (by repeat constructor)).own, (ho1 (.own 3 1 (e) (g.lG oc).length ((g.lG oc).map i64)) _ (by repeat constructor)).own, by simp only []; omega, by simp only []; omega, by simp only []; omega, by simp only []; omega⟩ hall (by decide) (by omega) (by omega) (by omega) (by omega) ht0 hF2 ho0 (by omega) (by omega); exact fun _ _ h => h)
    apply Par.quiet _ [true, true, true, true, true, true, true, true]
    · exact rfl
    · decide +kernel
    · exact rfl
    · intro R
      refine ⟨_, (by repeat constructor), ?_⟩
      apply EvW.callK ([imgH x])
      · exact rfl
      · exact fun w => Try.call9 _ w
      · (focus ((repeat constructor); done))
      · exact fun w1 S1 hS1 hs1 ho1 => takeI_same x 100 oc F2 _ 0 k2 w1 S1 hS1 hok ho0 (by omega) (by decide) hr2 hk2 hk2n hlz
      · exact fun _ _ h => h
    (apply Par.quiet _ [true, true, true, true, true, true, true, true]; exact rfl; decide +kernel; exact rfl; intro R; refine ⟨_, (by repeat constructor), ?_⟩;
         (first | (apply EvW.cmpF; exact rfl; exact rfl; exact rfl; omega)))
    (apply Par.quiet _ [true, true, true, true, true, true, true, true]; exact rfl; decide +kernel; exact rfl; intro R; refine ⟨_, (by repeat constructor), ?_⟩;
         (first | (apply EvW.move; exact rfl)))
    first
      | (apply Par.skip; exact rfl; decide +kernel; exact rfl)
      | (apply Par.quiet _ [true, true, true, true, true, true, true, true]; exact rfl; decide +kernel; exact rfl; intro R; refine ⟨_, (by repeat constructor), ?_⟩;
         (first | (apply EvW.move; exact rfl)))
    first
      | (apply Par.skip; exact rfl; decide +kernel; exact rfl)
      | (apply Par.quiet _ [true, true, true, true, true, true, true, true]; exact rfl; decide +kernel; exact rfl; intro R; refine ⟨_, (by repeat constructor), ?_⟩;
         (first | (apply EvW.load; exact rfl; exact ScalC.eq; (focus ((repeat constructor); done)); exact rfl)))
    first
      | (apply Par.skip; exact rfl; decide +kernel; exact rfl)
      | (apply Par.quiet _ [true, true, true, true, true, true, true, true]; exact rfl; decide +kernel; exact rfl; intro R; refine ⟨_, (by repeat constructor), ?_⟩;
         (first | (apply EvW.move; exact rfl)))
    apply Par.quiet _ [true, true, true, true, true, true, true, true]
    · exact rfl
    · decide +kernel
    · exact rfl
    · intro R
      refine ⟨_, (by repeat constructor), ?_⟩
      (apply EvW.callBV []; exact rfl; exact rfl; exact fun w => Try.call23 _ w; exact TakeL.nil; exact fun w1 S1 hS1 hs1 ho1 => tellO_spec g oc 1 101 0 hb q1 a b d e t0 F3 w1 S1 hS1 (ho1 (.blk hb #[a, b, d, e] 51) _ (by repeat constructor)) (ho1 (.blk q1 #[i64 oc] 3) _ (by repeat constructor)) ⟨(ho1 (.own 3 1 (a) (g.lS oc).length ((g.lS oc).map i64)) _ (by repeat constructor)).own, (ho1 (.own 3 1 (b) (g.lP oc).length ((g.lP oc).map i64)) _ (by repeat constructor)).own, (ho1 (.own 3 1 (d) (g.lC oc).length ((g.lC oc).map i64)) _ (by repeat constructor)).own, (ho1 (.own 3 1 (e) (g.lG oc).length ((g.lG oc).map i64)) _ (by repeat constructor)).own, by simp only []; omega, by simp only []; omega, by simp only []; omega, by simp only []; omega⟩ hall (by decide) (by omega) (by omega) (by omega) (by omega) ht0 hF3 ho0 (by omega) (by omega); exact fun _ _ h => h)
    apply Par.quiet _ [true, true, true, true, true, true, true, true]
    · exact rfl
    · decide +kernel
    · exact rfl
    · intro R
      refine ⟨_, (by repeat constructor), ?_⟩
      apply EvW.callK ([imgH x])
      · exact rfl
      · exact fun w => Try.call9 _ w
      · (focus ((repeat constructor); done))
      · exact fun w1 S1 hS1 hs1 ho1 => takeI_same x 100 oc F3 _ 0 19 w1 S1 hS1 hok ho0 (by omega) (by decide) hr3 hk3 (by decide) hlz
      · exact fun _ _ h => h
    first
      | (apply Par.skip; exact rfl; decide +kernel; exact rfl)
      | (apply Par.quiet _ [true, true, true, true, true, true, true, true]; exact rfl; decide +kernel; exact rfl; intro R; refine ⟨_, (by repeat constructor), ?_⟩;
         (first | (apply EvW.cmpF; exact rfl; exact rfl; exact rfl; omega)))
    (apply Par.quiet _ [true, true, true, true, true, true, true, true]; exact rfl; decide +kernel; exact rfl; intro R; refine ⟨_, (by repeat constructor), ?_⟩;
         (first | (apply EvW.pickF; exact rfl; exact rfl)))
    (apply Par.quiet _ [true, true, true, true, true, true, true, true]; exact rfl; decide +kernel; exact rfl; intro R; refine ⟨_, (by repeat constructor), ?_⟩;
         (first | (apply EvW.move; exact rfl)))
    first
      | (apply Par.skip; exact rfl; decide +kernel; exact rfl)
      | (apply Par.quiet _ [true, true, true, true, true, true, true, true]; exact rfl; decide +kernel; exact rfl; intro R; refine ⟨_, (by repeat constructor), ?_⟩;
         (first | (apply EvW.move; exact rfl)))
    first
      | (apply Par.skip; exact rfl; decide +kernel; exact rfl)
      | (apply Par.quiet _ [true, true, true, true, true, true, true, true]; exact rfl; decide +kernel; exact rfl; intro R; refine ⟨_, (by repeat constructor), ?_⟩;
         (first | (apply EvW.load; exact rfl; exact ScalC.eq; (focus ((repeat constructor); done)); exact rfl)))
    apply Par.quiet _ [true, true, true, true, true, true, true, true]
    · exact rfl
    · decide +kernel
    · exact rfl
    · intro R
      refine ⟨_, (by repeat constructor), ?_⟩
      apply EvW.callK ([imgH x])
      · exact rfl
      · exact fun w => Try.call9 _ w
      · (focus ((repeat constructor); done))
      · exact fun w1 S1 hS1 hs1 ho1 => takeI_same x 100 oc [120] _ k4 k4 w1 S1 hS1 hok ho0 (by show 1 ≤ _; decide) (by decide) hk4 hk5 hk4n hlz
      · exact fun _ _ h => h
    first
      | (apply Par.skip; exact rfl; decide +kernel; exact rfl)
      | (apply Par.quiet _ [true, true, true, true, true, true, true, true]; exact rfl; decide +kernel; exact rfl; intro R; refine ⟨_, (by repeat constructor), ?_⟩;
         (first | (apply EvW.cmpF; exact rfl; exact rfl; exact rfl; omega)))
    (apply Par.quiet _ [true, true, true, true, true, true, true, true]; exact rfl; decide +kernel; exact rfl; intro R; refine ⟨_, (by repeat constructor), ?_⟩;
         (first | (apply EvW.pickF; exact rfl; exact rfl)))
    exact Par.nil
  · repeat (first | exact AllN.nil | (apply AllN.cons; (intro c x; (repeat (first | exact IndA.nil | (apply IndA.skip; decide +kernel) | apply IndA.same))))) 
  · repeat (first | exact AllN.nil | (apply AllN.cons; (intro c x; (repeat (first | exact IndT.nil | (apply IndT.skip; decide +kernel) | apply IndT.same))))) 
  · exact fun _ => rfl
  intro c
  refine ⟨_, (by repeat constructor), ?_⟩
  apply WE.writ
  · (focus ((repeat (first | exact Writ.nil | apply Writ.some | apply Writ.none)); done))
  repeat first
    | refine WC.seq ?_ | refine WE.next ?_ | refine WC.skip ?_ | refine WC.condF rfl ?_
  have hal := hO2.alive ho0 (by show (0 : Int) ≤ 100; decide) (now := 100) (by show (100 : Int) ≤ _; decide)
  rw [decide_eq_true (show (100 : Int) - (Rcv.mk 100 0 1 oc g.age).last ≤ g.age from by show (100 : Int) - 100 ≤ _; omega)] at hal
  have hsd2 := hA.sound 100
  have hl4 := Img.occ_len x 100 x.c.secs.length
  rw [show x.c.secs.length = g.secs.length from congrArg List.length hA.cs] at hl4
  have hV : ∀ (w : World) (S : BSet), (sepL []).sat S w → (Img.Seen x w S) → _ := fun w S hS hx => view_spec x 100 w S hS hx (by decide) hok.small hsd2
  rw [show x.c.secs = g.secs from hA.cs, show x.c.crs = g.crs from hA.cr, show x.c.sigs = g.sigs from hA.cg] at hV
  have hn0 : 0 < (g.lS oc).length := by omega
  obtain ⟨j, hj, hjn, hjo⟩ := lS_at (g := g) (oc := oc) (k := 0) hn0
  have hat0 : atF (g.lS oc) j = 0 := by
    rw [← hjn]
    revert hn0
    cases g.lS oc with
    | nil => intro h; exact absurd h (by decide)
    | cons x l => intro _; show atF (x :: l) x = 0; unfold atF; rw [if_pos rfl]
  have hl1v : (x.occ 100 g.secs.length).getD j default = (1, 100, true) := by
    rw [occ_live hA _ hj hjo hal, hO2.la, hO2.st, hat0]
    revert hn0
    cases (g.lS oc).length with
    | zero => intro h; exact absurd h (by decide)
    | succ n => intro _; rfl
  generalize Img.occ x 100 g.secs.length = L1 at hl4 hV hl1v
  generalize Img.pos x 100 g.secs.length = L2 at hV
  generalize Img.shut x 100 g.crs.length = L3 at hV
  generalize Img.lamp x 100 g.sigs.length = L4 at hV
  have hjn2 : (g.lS oc).getD ((0 : Int)).toNat 0 = (j : Int) := hjn
  have hjj : ((g.lS oc).getD ((0 : Int)).toNat 0).toNat = j := by rw [hjn2]; exact Int.toNat_natCast j
  have hjl : ((g.lS oc).getD ((0 : Int)).toNat 0).toNat < L1.length := by rw [hjj]; omega
  repeat refine WC.seq ?_
  refine WC.keep (xs := [.blk q0 (cfgC g).toArray 30, .blk q1 #[i64 oc] 3, .blk hb #[a, b, d, e] 51, .own 3 1 (a) (g.lS oc).length ((g.lS oc).map i64), .own 3 1 (b) (g.lP oc).length ((g.lP oc).map i64), .own 3 1 (d) (g.lC oc).length ((g.lC oc).map i64), .own 3 1 (e) (g.lG oc).length ((g.lG oc).map i64), imgH x]) (by repeat constructor) ?_
  apply WC.par _ (fun c : Ch => [.blk q0 (cfgC g).toArray 30, .blk q1 #[i64 oc] 3, .blk hb #[a, b, d, e] 51, .own 3 1 (a) (g.lS oc).length ((g.lS oc).map i64), .own 3 1 (b) (g.lP oc).length ((g.lP oc).map i64), .own 3 1 (d) (g.lC oc).length ((g.lC oc).map i64), .own 3 1 (e) (g.lG oc).length ((g.lG oc).map i64), imgH x, .own 44 3 ((cA (c 1).2 0)) (L1).length ((L1).flatMap lkC), .own 44 3 ((cA (c 1).2 1)) (L2).length ((L2).flatMap lkC), .own 44 3 ((cA (c 1).2 2)) (L3).length ((L3).flatMap lkC), .own 44 3 ((cA (c 1).2 3)) (L4).length ((L4).flatMap lkC), .blk (c 9).1 #[i64 0, i64 0, .bool false] 44, .blk (c 9).1 #[i64 (L1.getD ((g.lS oc).getD ((0 : Int)).toNat 0).toNat default).1, i64 (L1.getD ((g.lS oc).getD ((0 : Int)).toNat 0).toNat default).2.1, .bool (L1.getD ((g.lS oc).getD ((0 : Int)).toNat 0).toNat default).2.2] 44]) [none, none, none, none, none, none, none, none, some 1, some 1, some 1, some 1, some 9, some 10] [none, none, none, none, none, none, none, none, none, none, none, none, some 10, none] [(1, fun x => .agg #[cA x.2 0, cA x.2 1, cA x.2 2, cA x.2 3]), (9, fun x => ptr x.1 0)] Try.mixed
  · (focus ((repeat (first | exact Restr.nil | (apply Restr.keep; exact rfl; exact rfl) | (apply Restr.drop; exact rfl))); done))
  · intro c; exact (by repeat constructor)
  · exact rfl
  · decide +kernel
  · decide +kernel
  · intro c
    (apply Par.quiet _ [true, true, true, true, true, true, true, true, false, false, false, false, false, false]; exact rfl; decide +kernel; exact rfl; intro R; refine ⟨_, (by repeat constructor), ?_⟩;
         (first | (apply EvW.move; exact rfl)))
    apply Par.new _ [false, false, false, false, false, false, false, false, false, false, false, false, false, false] [false, false, false, false, false, false, false, false, true, true, true, true, false, false] [true, true, true, true, true, true, true, true, false, false, false, false, false, false]
    · exact rfl
    · exact rfl
    · decide +kernel
    · intro R
      refine ⟨_, _, _, (by repeat constructor), (by repeat constructor), (fun x => (by repeat constructor)), ?_⟩
      apply NewW.callA ([]) (fun x => [.own 44 3 ((cA x.2 0)) (L1).length ((L1).flatMap lkC), .own 44 3 ((cA x.2 1)) (L2).length ((L2).flatMap lkC), .own 44 3 ((cA x.2 2)) (L3).length ((L3).flatMap lkC), .own 44 3 ((cA x.2 3)) (L4).length ((L4).flatMap lkC)])
      · exact rfl
      · exact fun w => Try.call10 _ w
      · (focus ((repeat constructor); done))
      · exact fun w1 S1 hS1 hs1 ho1 => hV w1 S1 hS1 (img_seen (ho1 (imgH x) _ (by repeat constructor)) hok)
      · rintro _ _ ⟨a0, a1, a2, a3, rfl, rfl⟩; exact ⟨(0, .agg #[a0, a1, a2, a3]), rfl, rfl⟩
      · exact fun x _ h => TakeT.st (by (focus ((repeat (first | exact TakeT.tail | apply TakeT.cons | exact Take.head | apply Take.tail | apply TakeT.drop)); done))) h
    (apply Par.quiet _ [true, true, true, true, true, true, true, true, true, true, true, true, false, false]; exact rfl; decide +kernel; exact rfl; intro R; refine ⟨_, (by repeat constructor), ?_⟩;
         (first | (apply EvW.field; exact rfl; exact FvC.eq; exact rfl)))
    (apply Par.quiet _ [true, true, true, true, true, true, true, true, false, false, false, false, false, false]; exact rfl; decide +kernel; exact rfl; intro R; refine ⟨_, (by repeat constructor), ?_⟩;
         (first | (apply EvW.fieldAddr0; exact rfl; exact FldC.eq)))
    (apply Par.quiet _ [true, true, true, true, true, true, true, true, false, false, false, false, false, false]; exact rfl; decide +kernel; exact rfl; intro R; refine ⟨_, (by repeat constructor), ?_⟩;
         (first | (apply EvW.load; exact rfl; exact ScalC.eq; (focus ((repeat constructor); done)); exact rfl)))
    (apply Par.quiet _ [true, true, true, true, true, true, true, true, false, false, false, false, false, false]; exact rfl; decide +kernel; exact rfl; intro R; refine ⟨_, (by repeat constructor), ?_⟩;
         (first | (apply EvW.idxOwn; exact rfl; exact rfl; exact UndC.eq; exact SzC.eq; (focus ((repeat constructor); done)); omega; omega)))
    (apply Par.quiet _ [true, true, true, true, true, true, true, true, false, false, false, false, false, false]; exact rfl; decide +kernel; exact rfl; intro R; refine ⟨_, (by repeat constructor), ?_⟩;
         (first | (apply EvW.ldIntOwn; exact rfl; exact ScalC.eq; (focus ((repeat constructor); done)); omega)))
    (apply Par.quiet _ [true, true, true, true, true, true, true, true, true, true, true, true, false, false]; exact rfl; decide +kernel; exact rfl; intro R; refine ⟨_, (by repeat constructor), ?_⟩;
         (first | (apply EvW.idxOwn; exact rfl; exact rfl; exact UndC.eq; exact SzC.eq; (focus ((repeat constructor); done)); omega; omega)))
    apply Par.quiet _ [true, true, true, true, true, true, true, true, true, true, true, true, false, false]
    · exact rfl
    · decide +kernel
    · exact rfl
    · intro R
      refine ⟨_, (by repeat constructor), ?_⟩
      (apply EvW.ldElemOwn (xs := L1) (z := (default : Int × Int × Bool)) (f := lkC); exact rfl; exact AggC.eq; exact SzC.eq; exact rfl; exact fun _ => rfl; (focus ((repeat constructor); done)); omega)
    (apply Par.new _ [false, false, false, false, false, false, false, false, false, false, false, false, false, false] [false, false, false, false, false, false, false, false, false, false, false, false, true, false] [true, true, true, true, true, true, true, true, false, false, false, false, false, false]; exact rfl; exact rfl; decide +kernel; intro R; refine ⟨_, _, _, (by repeat constructor), (by repeat constructor), (fun x => (by repeat constructor)), ?_⟩; (apply NewW.alloc; exact ZvC.eq; exact rfl; exact fun _ => rfl))
    apply Par.eff _ [false, false, false, false, false, false, false, false, false, false, false, false, true, false] [false, false, false, false, false, false, false, false, false, false, false, false, false, true] [true, true, true, true, true, true, true, true, true, true, true, true, false, false]
    · exact rfl
    · exact rfl
    · decide +kernel
    · intro R
      refine ⟨_, _, _, (by repeat constructor), (by repeat constructor), (by repeat constructor), ?_⟩
      (apply EffW.store; exact rfl; exact rfl; exact rfl; exact SzC.eq; exact rfl; (focus ((repeat constructor); done)))
    exact Par.nil
  · repeat (first | exact AllN.nil | (apply AllN.cons; (intro c x; (repeat (first | exact IndA.nil | (apply IndA.skip; decide +kernel) | apply IndA.same))))) 
  · repeat (first | exact AllN.nil | (apply AllN.cons; (intro c x; (repeat (first | exact IndT.nil | (apply IndT.skip; decide +kernel) | apply IndT.same))))) 
  · exact fun _ => rfl
  intro c
  refine ⟨_, (by repeat constructor), ?_⟩
  apply WE.writ
  · (focus ((repeat (first | exact Writ.nil | apply Writ.some | apply Writ.none)); done))
  generalize (c 1).1 = b1
  generalize (c 9).1 = b9
  rw [hjj, hl1v]
  generalize (c 1).2 = vv
  repeat first
    | (apply WL.q; exact rfl; exact rfl; exact rfl; (first | (apply EvW.move; exact rfl) | (apply EvW.fieldAddr0; exact rfl; exact FldC.eq) | (apply EvW.load; exact rfl; exact ScalC.eq; (focus ((repeat constructor); done)); exact rfl) | (apply EvW.cmpT; exact rfl; exact rfl; exact rfl; omega) | (apply EvW.cmp; exact rfl; exact rfl; exact rfl) | (apply EvW.pickT; exact rfl; exact rfl)))
    | refine WC.seq ?_ | refine WC.region ?_ | refine WE.next ?_ | refine WL.wanted rfl rfl rfl ?_
  try refine WL.wanted rfl rfl rfl ?_
  apply WL.callA ([])
  · exact rfl
  · exact rfl
  · exact fun w => Try.call19 _ w
  · (focus ((repeat constructor); done))
  · exact fun w1 S1 hS1 hs1 ho1 => lostI_spec x w1 S1 hS1 (img_seen (ho1 (imgH x) _ (by repeat constructor)) hok) (fun k hk => by rw [hO2.lost k (by rw [hok.len] at hk; exact hk)]; exact ⟨Int.le_refl _, by decide⟩)
  rintro _ _ ⟨rfl, rfl⟩
  first | refine WL.app4 ?_ | refine WL.app3 ?_ | refine WL.app2 ?_ | refine WL.app1 ?_ | refine WL.app0 ?_ | skip
  rw [lost_nought hO2.lost hok.len]
  repeat first
    | (apply WL.q; exact rfl; exact rfl; exact rfl; (first | (apply EvW.assign; exact rfl) | (apply EvW.cmpT; exact rfl; exact rfl; exact rfl; omega) | (apply EvW.pickT; exact rfl; exact rfl)))
    | refine WL.nil ?_ | refine WE.next ?_ | refine WC.ret ?_ | refine WL.wanted rfl rfl rfl ?_
  refine WE.bare ?_
  refine WE.ret1 rfl rfl ?_
  rfl
end Go.Proofs.Ytamofjpadnnppaa
namespace Go.Proofs.Ytamofjpadnnppaa
open Go.ChangeShapes Go.WideShapes Go.ChangeAt Go.RowKit Go.BK
set_option maxRecDepth 100000 in
theorem imageOlder_lifted (os : Os) (started : os.Started) (H : Type) (enc : TypeId × Value → H) (F : Stop.Interp) :
    ReturnsInHanded {} Try.checked os 6 .any ((Rows.OpenSpec.upto Rows.imageOlderSpec).pre6 enc Try.prog Try.f6 Rows.imageOlderUptoRow.domain false) (((Rows.OpenSpec.upto Rows.imageOlderSpec).at F).post enc Try.prog Try.f6 false true false false) := by
  refine law_liftedU (C := Try.checked) (s := Rows.imageOlderSpec) (tb := 4) Try.own started (by kernel_rfl) Try.func6 rfl Try.underlying4 rfl Try.laidOut (by kernel_rfl) (by intro ds h; match ds, h with | [d1, d2, d3], _ => rfl)
    (OpenSpec.witness (enc := enc) (C := Try.checked) (s := Rows.OpenSpec.upto Rows.imageOlderSpec) (k := Rows.uptoSmall) rfl false ⟨#[], #[.agg #[.slice none 0 0, .slice none 0 0, .slice none 0 0, .slice none 0 0, .slice none 0 0, .int .i64 0, .int .i64 0, .int .i64 0, .int .i64 0], .int .i64 0, .int .i64 0], []⟩ 8 (by kernel_rfl) (by kernel_rfl) (by kernel_rfl)
      (x := ([.agg [.nil, .nil, .nil, .nil, .nil, .agg [.lit (.int .i64 0), .lit (.int .i64 0), .lit (.int .i64 0), .lit (.int .i64 0)]], .lit (.int .i64 0), .lit (.int .i64 0)], [], [])) (by kernel_rfl) rfl (by kernel_rfl)) ?_
  intro W base args ds p hval hA0 hk
  have hA : DataW.TrodAll enc Try.prog W 0 (fun _ => true) true Try.f6.params.toList args.toList ds p := hA0
  rw [Try.params6] at hA hval
  clear hA0
  obtain ⟨v0, v1, v2, d0, d1, d2, p0, p1, p2, rfl, rfl, rfl, h0, h1, h2⟩ := trodAll_three hA
  obtain ⟨c, rfl, hc, hb0⟩ := argU_agg opensU_config (okWide_struct Try.underlying30 (hval 0 30 v0 rfl rfl)) h0
  obtain ⟨n, rfl, rfl, rfl, wn⟩ := open_int Try.underlying3 (hval 1 3 v1 rfl rfl) h1
  obtain ⟨m, rfl, rfl, rfl, wm⟩ := open_int Try.underlying3 (hval 2 3 v2 rfl rfl) h2
  simp only [Rows.uptoBulkAll] at hk
  have hm : cfgMu c ≤ 1048576 := by omega
  exact (imageOlder_law c n m W _ (fun _ h => h) (hc.seen hm) (Cfg.In.small hm)).law (fun _ _ h => h)
theorem imageOlder_holds : Rows.ImageOlderUptoSaid :=
  OpenClaim.holds_of_cond 6 Try.f6 rfl rfl rfl rfl rfl rfl rfl ⟨rfl, rfl, rfl, rfl, rfl⟩ rfl rfl rfl rfl rfl (by kernel_rfl) Try.func6 (by kernel_rfl)
    (of_decide_eq_true (by kernel_rfl)) (by unfold Func.isWrapper; first | (rw [if_pos (by decide +kernel)]; kernel_rfl) | (rw [if_neg (by decide +kernel)]; exact ⟨rfl, rfl⟩))
    (fun os started H enc _ F => imageOlder_lifted os started H enc F)
end Go.Proofs.Ytamofjpadnnppaa
