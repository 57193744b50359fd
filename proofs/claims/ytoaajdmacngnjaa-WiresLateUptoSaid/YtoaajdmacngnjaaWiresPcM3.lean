/- WiresLate holds for every input of bulk at most 1048576: on a wire that is late each text comes a cycle later, once, in its order; on one that doubles at once and a cycle later. Condition: the bulk of the second form. -/
import Derived.Test.YtoaajdmacngnjaaWiresPcM2
namespace Go.Proofs.Ytoaajdmacngnjaa
open Go.RowKit Go.BK
structure Okx (xs : List Wr) : Prop where
  nodup : (xs.map (·.p)).Nodup
  wf : ∀ q ∈ xs, (Lit.int .i64 q.p).wf = true
  len : xs.length ≤ 1099511627776
theorem kv_keys {zs : Zs} {xs : List Wr} (hz : zs.map (·.1) = xs) : (zs.map kv).map (·.1) = xs.map (·.p) := by
  subst hz; rw [List.map_map, List.map_map]; rfl
theorem outR_step (xs : List Wr) (K : List Int) (i : Nat) (h : i < K.length) : outR xs (K.take (i + 1)) = outR xs (K.take i) ++ telsOf (K.getD i 0) (readyO (getW xs (K.getD i 0))) := by
  have e : K.take (i + 1) = K.take i ++ [K.getD i 0] := by
    rw [List.take_add_one, List.getD_eq_getElem?_getD, List.getElem?_eq_getElem h]; rfl
  rw [e]
  unfold outR
  rw [List.flatMap_append, List.flatMap_singleton]
theorem take_step (K : List Int) (i : Nat) (h : i < K.length) : K.take (i + 1) = K.take i ++ [K.getD i 0] := by
  rw [List.take_add_one, List.getD_eq_getElem?_getD, List.getElem?_eq_getElem h]; rfl
theorem not_taken {K : List Int} (hd : K.Nodup) (i : Nat) (h : i < K.length) : K.getD i 0 ∉ K.take i := by
  have h1 : (K.take (i + 1)).Nodup := hd.sublist (List.take_sublist _ _)
  rw [take_step K i h] at h1
  intro hm
  exact (List.nodup_append.1 h1).2.2 _ hm _ (by simp) rfl
theorem outR_room (xs : List Wr) (hd : (xs.map (·.p)).Nodup) {K : List Int} (hp : K.Perm (xs.map (·.p))) (i : Nat) (h : i < K.length) : (outR xs (K.take i)).length + (readyO (getW xs (K.getD i 0))).length ≤ underF xs := by
  have h1 := outR_sum xs (K.take i)
  have h2 := take_sum (fun p => wSize (getW xs p)) K (i + 1)
  rw [keys_sum xs hd hp, take_step K i h, List.map_append, List.sum_append] at h2
  have h3 := readyO_le (getW xs (K.getD i 0))
  simp only [List.map_cons, List.map_nil, List.sum_cons, List.sum_nil] at h2
  omega
set_option maxHeartbeats 4000000 in
set_option maxRecDepth 8000 in
theorem pass_spec (wb : Nat) (xs : List Wr) (v : Value) (l : List Tel) (w : World) (S : BSet) (hS : (sepL [wiresH wb xs]).sat S w) (hv : Sees w S (.row 2 v l.length (l.flatMap telC))) (hk : Okx xs) (hu : underF xs + l.length ≤ 2147483648) (ht : ∀ t ∈ l, t.2.length ≤ 140737488355328) :
    Tri Try.prog 14 #[ptr wb 0, v] w S fun u A => A = [.own 34 2 (u) ((passF xs l).2).length (((passF xs l).2).flatMap telC), wiresH wb (passF xs l).1] := by
  refine Tri.enter (l := [ptr wb 0, v]) Try.func14 rfl Try.ntmps14 rfl [(0, ptr wb 0), (1, v)] (subA rfl) hS ?_
  refine WC.openW .head fun mb zs hz => ?_
  obtain ⟨K, hK⟩ : ∃ K, sortI (xs.map (·.p)) = K := ⟨_, rfl⟩
  have hKp : K.Perm (xs.map (·.p)) := by rw [← hK]; exact sortI_perm _
  have hKd : K.Nodup := hKp.nodup_iff.2 hk.nodup
  have hkl : K.length = xs.length := by rw [hKp.length_eq, List.length_map]
  have hzl : zs.length = xs.length := by rw [← hz, List.length_map]
  have hklen := hk.len
  have hwf : ∀ p ∈ zs.map kv, (Lit.int .i64 p.1).wf = true := fun p hp => by
    have h1 : p.1 ∈ (zs.map kv).map (·.1) := List.mem_map.2 ⟨p, hp, rfl⟩
    rw [kv_keys hz] at h1
    obtain ⟨q, hq, e⟩ := List.mem_map.1 h1
    rw [← e]; exact hk.wf q hq
  repeat first
    | (apply WL.q; exact rfl; exact rfl; exact rfl; (first | (apply EvW.move; exact rfl) | (apply EvW.assign; exact rfl) | (apply EvW.nilPtr; exact rfl) | (apply EvW.fieldAddr0; exact rfl; exact FldC.eq) | (apply EvW.fieldAddr; exact rfl; exact FldC.eq) | (apply EvW.load; exact rfl; exact ScalC.eq; (focus ((repeat constructor); done)); exact rfl) | (apply EvW.ldSeen; exact rfl; exact ScalC.eq; assumption; (first | exact rfl | assumption)) | (apply EvW.ldFld; exact rfl; exact ScalC.eq; assumption; exact fun _ => rfl; omega; exact rfl; exact inferInstance) | (apply EvW.lenL; exact rfl; exact UndC.eq) | (apply EvW.cmpT; exact rfl; exact rfl; exact rfl; omega) | (apply EvW.cmpF; exact rfl; exact rfl; exact rfl; omega) | (apply EvW.cmp; exact rfl; exact rfl; exact rfl) | (apply EvW.arN; exact rfl; exact rfl; exact rfl; refine i64_in ?_ ?_ <;> omega) | (apply EvW.ar; exact rfl; exact rfl; exact rfl) | (apply EvW.loadAgg; exact rfl; exact AggC.eq; exact SzC.eq; (focus ((repeat constructor); done)); (focus ((repeat (first | exact SubL.nil | apply SubL.cons | apply SubL.succ)); done))) | (apply EvW.makeFunc; exact rfl) | (apply EvW.ldStr; exact rfl; exact ScalC.eq; assumption; omega) | (apply EvW.ldStrOwn; exact rfl; exact ScalC.eq; (focus ((repeat constructor); done)); omega) | (apply EvW.lenRow; exact rfl; exact UndC.eq; assumption) | (apply EvW.lenOwn; exact rfl; exact UndC.eq; (focus ((repeat constructor); done))) | (apply EvW.idxRow; exact rfl; exact rfl; exact UndC.eq; exact SzC.eq; assumption; omega; omega) | (apply EvW.idxOwn; exact rfl; exact rfl; exact UndC.eq; exact SzC.eq; (focus ((repeat constructor); done)); omega; omega) | (apply EvW.ldInt; exact rfl; exact ScalC.eq; assumption; omega) | (apply EvW.ldIntOwn; exact rfl; exact ScalC.eq; (focus ((repeat constructor); done)); omega) | (apply EvW.fldRow; exact rfl; exact FldC.eq; assumption; omega) | (apply EvW.fldOwn; exact rfl; exact FldC.eq; (focus ((repeat constructor); done)); omega) | (apply EvW.nilElemOwn; exact rfl; (focus ((repeat constructor); done)); omega) | (apply EvW.nilElemRow; exact rfl; assumption; omega) | (apply EvW.ldFldOwn; exact rfl; exact ScalC.eq; (focus ((repeat constructor); done)); exact fun _ => rfl; omega; exact rfl; exact inferInstance) | (apply EvW.lookup; exact rfl; exact rfl; exact UndC.eq; exact UndC.eq; exact ZvC.eq; (focus ((repeat constructor); done))) | (apply EvW.lookupOk; exact rfl; exact rfl; exact UndC.eq; exact UndC.eq; exact ZvC.eq; (focus ((repeat constructor); done))) | (apply EvW.lookupT; exact rfl; exact rfl; exact UndC.eq; exact UndC.eq; exact ZvC.eq; (focus ((repeat constructor); done)))))
    | refine WC.seq ?_ | refine WC.region ?_ | refine WL.nil ?_ | refine WE.next ?_ | refine WC.block ?_ | refine WC.skip ?_ | refine WC.exit ?_ | refine WE.pass ?_ | refine WE.hit ?_ | refine WE.miss rfl ?_ | refine WE.out ?_ | refine WC.condT rfl ?_ | refine WC.condF rfl ?_ | refine WC.ret ?_ | refine WE.passRet ?_ | refine WE.outRet ?_ | refine WL.wanted rfl rfl rfl ?_ | (apply WL.store; exact rfl; exact rfl; (first | assumption | exact rfl); exact SzC.eq; (first | assumption | exact rfl); (focus ((repeat constructor); done)))
  try refine WL.wanted rfl rfl rfl ?_
  (apply WL.alloc; exact rfl; exact ZvC.eq; exact rfl; intro ob)
  repeat first
    | (apply WL.q; exact rfl; exact rfl; exact rfl; (first | (apply EvW.move; exact rfl) | (apply EvW.assign; exact rfl) | (apply EvW.nilPtr; exact rfl) | (apply EvW.fieldAddr0; exact rfl; exact FldC.eq) | (apply EvW.fieldAddr; exact rfl; exact FldC.eq) | (apply EvW.load; exact rfl; exact ScalC.eq; (focus ((repeat constructor); done)); exact rfl) | (apply EvW.ldSeen; exact rfl; exact ScalC.eq; assumption; (first | exact rfl | assumption)) | (apply EvW.ldFld; exact rfl; exact ScalC.eq; assumption; exact fun _ => rfl; omega; exact rfl; exact inferInstance) | (apply EvW.lenL; exact rfl; exact UndC.eq) | (apply EvW.cmpT; exact rfl; exact rfl; exact rfl; omega) | (apply EvW.cmpF; exact rfl; exact rfl; exact rfl; omega) | (apply EvW.cmp; exact rfl; exact rfl; exact rfl) | (apply EvW.arN; exact rfl; exact rfl; exact rfl; refine i64_in ?_ ?_ <;> omega) | (apply EvW.ar; exact rfl; exact rfl; exact rfl) | (apply EvW.loadAgg; exact rfl; exact AggC.eq; exact SzC.eq; (focus ((repeat constructor); done)); (focus ((repeat (first | exact SubL.nil | apply SubL.cons | apply SubL.succ)); done))) | (apply EvW.makeFunc; exact rfl) | (apply EvW.ldStr; exact rfl; exact ScalC.eq; assumption; omega) | (apply EvW.ldStrOwn; exact rfl; exact ScalC.eq; (focus ((repeat constructor); done)); omega) | (apply EvW.lenRow; exact rfl; exact UndC.eq; assumption) | (apply EvW.lenOwn; exact rfl; exact UndC.eq; (focus ((repeat constructor); done))) | (apply EvW.idxRow; exact rfl; exact rfl; exact UndC.eq; exact SzC.eq; assumption; omega; omega) | (apply EvW.idxOwn; exact rfl; exact rfl; exact UndC.eq; exact SzC.eq; (focus ((repeat constructor); done)); omega; omega) | (apply EvW.ldInt; exact rfl; exact ScalC.eq; assumption; omega) | (apply EvW.ldIntOwn; exact rfl; exact ScalC.eq; (focus ((repeat constructor); done)); omega) | (apply EvW.fldRow; exact rfl; exact FldC.eq; assumption; omega) | (apply EvW.fldOwn; exact rfl; exact FldC.eq; (focus ((repeat constructor); done)); omega) | (apply EvW.nilElemOwn; exact rfl; (focus ((repeat constructor); done)); omega) | (apply EvW.nilElemRow; exact rfl; assumption; omega) | (apply EvW.ldFldOwn; exact rfl; exact ScalC.eq; (focus ((repeat constructor); done)); exact fun _ => rfl; omega; exact rfl; exact inferInstance) | (apply EvW.lookup; exact rfl; exact rfl; exact UndC.eq; exact UndC.eq; exact ZvC.eq; (focus ((repeat constructor); done))) | (apply EvW.lookupOk; exact rfl; exact rfl; exact UndC.eq; exact UndC.eq; exact ZvC.eq; (focus ((repeat constructor); done))) | (apply EvW.lookupT; exact rfl; exact rfl; exact UndC.eq; exact UndC.eq; exact ZvC.eq; (focus ((repeat constructor); done)))))
    | refine WC.seq ?_ | refine WC.region ?_ | refine WL.nil ?_ | refine WE.next ?_ | refine WC.block ?_ | refine WC.skip ?_ | refine WC.exit ?_ | refine WE.pass ?_ | refine WE.hit ?_ | refine WE.miss rfl ?_ | refine WE.out ?_ | refine WC.condT rfl ?_ | refine WC.condF rfl ?_ | refine WC.ret ?_ | refine WE.passRet ?_ | refine WE.outRet ?_ | refine WL.wanted rfl rfl rfl ?_ | (apply WL.store; exact rfl; exact rfl; (first | assumption | exact rfl); exact SzC.eq; (first | assumption | exact rfl); (focus ((repeat constructor); done)))
  try refine WL.wanted rfl rfl rfl ?_
  apply WL.callA ([])
  · exact rfl
  · exact rfl
  · exact fun w => Try.call22 _ w
  · (focus ((repeat constructor); done))
  · exact fun w1 S1 hS1 hs1 ho1 => maps_keys mb w1 S1
  rintro _ _ ⟨lb, rfl, rfl⟩
  first | refine WL.app4 ?_ | refine WL.app3 ?_ | refine WL.app2 ?_ | refine WL.app1 ?_ | refine WL.app0 ?_ | skip
  repeat first
    | (apply WL.q; exact rfl; exact rfl; exact rfl; (first | (apply EvW.move; exact rfl) | (apply EvW.assign; exact rfl) | (apply EvW.nilPtr; exact rfl) | (apply EvW.fieldAddr0; exact rfl; exact FldC.eq) | (apply EvW.fieldAddr; exact rfl; exact FldC.eq) | (apply EvW.load; exact rfl; exact ScalC.eq; (focus ((repeat constructor); done)); exact rfl) | (apply EvW.ldSeen; exact rfl; exact ScalC.eq; assumption; (first | exact rfl | assumption)) | (apply EvW.ldFld; exact rfl; exact ScalC.eq; assumption; exact fun _ => rfl; omega; exact rfl; exact inferInstance) | (apply EvW.lenL; exact rfl; exact UndC.eq) | (apply EvW.cmpT; exact rfl; exact rfl; exact rfl; omega) | (apply EvW.cmpF; exact rfl; exact rfl; exact rfl; omega) | (apply EvW.cmp; exact rfl; exact rfl; exact rfl) | (apply EvW.arN; exact rfl; exact rfl; exact rfl; refine i64_in ?_ ?_ <;> omega) | (apply EvW.ar; exact rfl; exact rfl; exact rfl) | (apply EvW.loadAgg; exact rfl; exact AggC.eq; exact SzC.eq; (focus ((repeat constructor); done)); (focus ((repeat (first | exact SubL.nil | apply SubL.cons | apply SubL.succ)); done))) | (apply EvW.makeFunc; exact rfl) | (apply EvW.ldStr; exact rfl; exact ScalC.eq; assumption; omega) | (apply EvW.ldStrOwn; exact rfl; exact ScalC.eq; (focus ((repeat constructor); done)); omega) | (apply EvW.lenRow; exact rfl; exact UndC.eq; assumption) | (apply EvW.lenOwn; exact rfl; exact UndC.eq; (focus ((repeat constructor); done))) | (apply EvW.idxRow; exact rfl; exact rfl; exact UndC.eq; exact SzC.eq; assumption; omega; omega) | (apply EvW.idxOwn; exact rfl; exact rfl; exact UndC.eq; exact SzC.eq; (focus ((repeat constructor); done)); omega; omega) | (apply EvW.ldInt; exact rfl; exact ScalC.eq; assumption; omega) | (apply EvW.ldIntOwn; exact rfl; exact ScalC.eq; (focus ((repeat constructor); done)); omega) | (apply EvW.fldRow; exact rfl; exact FldC.eq; assumption; omega) | (apply EvW.fldOwn; exact rfl; exact FldC.eq; (focus ((repeat constructor); done)); omega) | (apply EvW.nilElemOwn; exact rfl; (focus ((repeat constructor); done)); omega) | (apply EvW.nilElemRow; exact rfl; assumption; omega) | (apply EvW.ldFldOwn; exact rfl; exact ScalC.eq; (focus ((repeat constructor); done)); exact fun _ => rfl; omega; exact rfl; exact inferInstance) | (apply EvW.lookup; exact rfl; exact rfl; exact UndC.eq; exact UndC.eq; exact ZvC.eq; (focus ((repeat constructor); done))) | (apply EvW.lookupOk; exact rfl; exact rfl; exact UndC.eq; exact UndC.eq; exact ZvC.eq; (focus ((repeat constructor); done))) | (apply EvW.lookupT; exact rfl; exact rfl; exact UndC.eq; exact UndC.eq; exact ZvC.eq; (focus ((repeat constructor); done)))))
    | refine WC.seq ?_ | refine WC.region ?_ | refine WL.nil ?_ | refine WE.next ?_ | refine WC.block ?_ | refine WC.skip ?_ | refine WC.exit ?_ | refine WE.pass ?_ | refine WE.hit ?_ | refine WE.miss rfl ?_ | refine WE.out ?_ | refine WC.condT rfl ?_ | refine WC.condF rfl ?_ | refine WC.ret ?_ | refine WE.passRet ?_ | refine WE.outRet ?_ | refine WL.wanted rfl rfl rfl ?_ | (apply WL.store; exact rfl; exact rfl; (first | assumption | exact rfl); exact SzC.eq; (first | assumption | exact rfl); (focus ((repeat constructor); done)))
  try refine WL.wanted rfl rfl rfl ?_
  apply WL.callA ([])
  · exact rfl
  · exact rfl
  · exact fun w => Try.call21 _ w
  · (focus ((repeat constructor); done))
  · exact fun w1 S1 hS1 hs1 ho1 => slices_sorted lb mb (zs.map kv) w1 S1 (ho1 (.blk lb [.map (some mb)].toArray 48) _ (by repeat constructor)) (ho1 (.tmap mb ((zs).map kv)) _ (by repeat constructor)) hwf (by rw [List.length_map]; omega)
  rintro _ _ rfl
  first | refine WL.app4 ?_ | refine WL.app3 ?_ | refine WL.app2 ?_ | refine WL.app1 ?_ | refine WL.app0 ?_ | skip
  rename_i ks
  rw [kv_keys hz, hK]
  refine WL.conv (fun _ hs => St.shutOut (v := (.slice none 0 0)) (o := []) (by repeat constructor) (hs.ownNil (e := 34) (sz := 2))) ?_
  refine WL.keep (xs := [.blk wb #[.map (some mb)] 50, .tmap mb ((zs).map kv), sepL (((zsR zs (K.take 0))).map wz), .own 3 1 ks K.length (K.map i64), outH ob (outR xs (K.take 0))]) (by rw [List.take_zero, zsR_nil, show outR xs [] = [] from rfl]; (focus ((repeat constructor); done))) ?_
  repeat first
    | (apply WL.q; exact rfl; exact rfl; exact rfl; (first | (apply EvW.move; exact rfl) | (apply EvW.assign; exact rfl) | (apply EvW.nilPtr; exact rfl) | (apply EvW.fieldAddr0; exact rfl; exact FldC.eq) | (apply EvW.fieldAddr; exact rfl; exact FldC.eq) | (apply EvW.load; exact rfl; exact ScalC.eq; (focus ((repeat constructor); done)); exact rfl) | (apply EvW.ldSeen; exact rfl; exact ScalC.eq; assumption; (first | exact rfl | assumption)) | (apply EvW.ldFld; exact rfl; exact ScalC.eq; assumption; exact fun _ => rfl; omega; exact rfl; exact inferInstance) | (apply EvW.lenL; exact rfl; exact UndC.eq) | (apply EvW.cmpT; exact rfl; exact rfl; exact rfl; omega) | (apply EvW.cmpF; exact rfl; exact rfl; exact rfl; omega) | (apply EvW.cmp; exact rfl; exact rfl; exact rfl) | (apply EvW.arN; exact rfl; exact rfl; exact rfl; refine i64_in ?_ ?_ <;> omega) | (apply EvW.ar; exact rfl; exact rfl; exact rfl) | (apply EvW.loadAgg; exact rfl; exact AggC.eq; exact SzC.eq; (focus ((repeat constructor); done)); (focus ((repeat (first | exact SubL.nil | apply SubL.cons | apply SubL.succ)); done))) | (apply EvW.makeFunc; exact rfl) | (apply EvW.ldStr; exact rfl; exact ScalC.eq; assumption; omega) | (apply EvW.ldStrOwn; exact rfl; exact ScalC.eq; (focus ((repeat constructor); done)); omega) | (apply EvW.lenRow; exact rfl; exact UndC.eq; assumption) | (apply EvW.lenOwn; exact rfl; exact UndC.eq; (focus ((repeat constructor); done))) | (apply EvW.idxRow; exact rfl; exact rfl; exact UndC.eq; exact SzC.eq; assumption; omega; omega) | (apply EvW.idxOwn; exact rfl; exact rfl; exact UndC.eq; exact SzC.eq; (focus ((repeat constructor); done)); omega; omega) | (apply EvW.ldInt; exact rfl; exact ScalC.eq; assumption; omega) | (apply EvW.ldIntOwn; exact rfl; exact ScalC.eq; (focus ((repeat constructor); done)); omega) | (apply EvW.fldRow; exact rfl; exact FldC.eq; assumption; omega) | (apply EvW.fldOwn; exact rfl; exact FldC.eq; (focus ((repeat constructor); done)); omega) | (apply EvW.nilElemOwn; exact rfl; (focus ((repeat constructor); done)); omega) | (apply EvW.nilElemRow; exact rfl; assumption; omega) | (apply EvW.ldFldOwn; exact rfl; exact ScalC.eq; (focus ((repeat constructor); done)); exact fun _ => rfl; omega; exact rfl; exact inferInstance) | (apply EvW.lookup; exact rfl; exact rfl; exact UndC.eq; exact UndC.eq; exact ZvC.eq; (focus ((repeat constructor); done))) | (apply EvW.lookupOk; exact rfl; exact rfl; exact UndC.eq; exact UndC.eq; exact ZvC.eq; (focus ((repeat constructor); done))) | (apply EvW.lookupT; exact rfl; exact rfl; exact UndC.eq; exact UndC.eq; exact ZvC.eq; (focus ((repeat constructor); done)))))
    | refine WC.seq ?_ | refine WC.region ?_ | refine WL.nil ?_ | refine WE.next ?_ | refine WC.block ?_ | refine WC.skip ?_ | refine WC.exit ?_ | refine WE.pass ?_ | refine WE.hit ?_ | refine WE.miss rfl ?_ | refine WE.out ?_ | refine WC.condT rfl ?_ | refine WC.condF rfl ?_ | refine WC.ret ?_ | refine WE.passRet ?_ | refine WE.outRet ?_ | refine WL.wanted rfl rfl rfl ?_ | (apply WL.store; exact rfl; exact rfl; (first | assumption | exact rfl); exact SzC.eq; (first | assumption | exact rfl); (focus ((repeat constructor); done)))
  refine WC.loopK (σ := Nat) [0, 1, 5, 6, 17, 18] (fun s => [(19, i64 s)]) (fun s => [.blk wb #[.map (some mb)] 50, .tmap mb ((zs).map kv), sepL (((zsR zs (K.take s))).map wz), .own 3 1 ks K.length (K.map i64), outH ob (outR xs (K.take s))]) (fun s => s ≤ K.length) (fun s => K.length - s) 0 (by (focus ((repeat (first | exact Pick.nil | (apply Pick.cons; exact rfl))); done))) (by (focus ((repeat (first | exact trivial | (refine ⟨rfl, ?_⟩))); done))) (fun _ h => h.keep (by repeat constructor)) (Nat.zero_le _) (fun s hs => ?_)
  obtain ⟨i, rfl⟩ : ∃ q, q = s := ⟨s, rfl⟩
  simp only [List.cons_append, List.nil_append] at hs ⊢
  by_cases hlt : (i : Int) < K.length
  · have hi : i < K.length := by omega
    obtain ⟨p, hp⟩ : ∃ p, K.getD i 0 = p := ⟨_, rfl⟩
    have hp2 : K.getD ((i : Nat) : Int).toNat 0 = p := hp
    have hpm : p ∈ xs.map (·.p) := by
      rw [← hKp.mem_iff, ← hp, List.getD_eq_getElem?_getD, List.getElem?_eq_getElem hi]; exact List.getElem_mem hi
    have hnt : p ∉ K.take i := by rw [← hp]; exact not_taken hKd i hi
    obtain ⟨hj, hjp⟩ := ixW_mem xs p hpm
    have hjz : ixW xs p < zs.length := by omega
    have hget : mget p (zs.map kv) = some (ptr (zs.getD (ixW xs p) default).2 0) := by rw [mget_kv, hz, if_pos hjz]
    have hq1 : (zs.getD (ixW xs p) default).1 = getW xs p := by
      unfold getW
      rw [← map_getD (·.1) zs _ hjz, hz]
    have hzj : (zsR zs (K.take i)).getD (ixW xs p) default = zs.getD (ixW xs p) default := by
      rw [zsR_at zs _ _ hjz, if_neg (by rw [hq1, hjp]; exact hnt)]
    have hset := zsR_set zs (K.take i) p (by rw [hz]; exact hk.nodup) (by rw [hz]; exact hpm)
    rw [hz, show K.take i ++ [p] = K.take (i + 1) from by rw [take_step K i hi, hp]] at hset
    have hsz : wSize (getW xs p) ≤ underF xs := sum_at xs _
    have hrm := outR_room xs hk.nodup hKp i hi
    have hst := outR_step xs K i hi
    rw [hp] at hrm hst
    have hzl2 := zsR_len zs (K.take i)
    repeat first
      | (apply WL.q; exact rfl; exact rfl; exact rfl; (first | (apply EvW.move; exact rfl) | (apply EvW.assign; exact rfl) | (apply EvW.nilPtr; exact rfl) | (apply EvW.fieldAddr0; exact rfl; exact FldC.eq) | (apply EvW.fieldAddr; exact rfl; exact FldC.eq) | (apply EvW.load; exact rfl; exact ScalC.eq; (focus ((repeat constructor); done)); exact rfl) | (apply EvW.ldSeen; exact rfl; exact ScalC.eq; assumption; (first | exact rfl | assumption)) | (apply EvW.ldFld; exact rfl; exact ScalC.eq; assumption; exact fun _ => rfl; omega; exact rfl; exact inferInstance) | (apply EvW.lenL; exact rfl; exact UndC.eq) | (apply EvW.cmpT; exact rfl; exact rfl; exact rfl; omega) | (apply EvW.cmpF; exact rfl; exact rfl; exact rfl; omega) | (apply EvW.cmp; exact rfl; exact rfl; exact rfl) | (apply EvW.arN; exact rfl; exact rfl; exact rfl; refine i64_in ?_ ?_ <;> omega) | (apply EvW.ar; exact rfl; exact rfl; exact rfl) | (apply EvW.loadAgg; exact rfl; exact AggC.eq; exact SzC.eq; (focus ((repeat constructor); done)); (focus ((repeat (first | exact SubL.nil | apply SubL.cons | apply SubL.succ)); done))) | (apply EvW.makeFunc; exact rfl) | (apply EvW.ldStr; exact rfl; exact ScalC.eq; assumption; omega) | (apply EvW.ldStrOwn; exact rfl; exact ScalC.eq; (focus ((repeat constructor); done)); omega) | (apply EvW.lenRow; exact rfl; exact UndC.eq; assumption) | (apply EvW.lenOwn; exact rfl; exact UndC.eq; (focus ((repeat constructor); done))) | (apply EvW.idxRow; exact rfl; exact rfl; exact UndC.eq; exact SzC.eq; assumption; omega; omega) | (apply EvW.idxOwn; exact rfl; exact rfl; exact UndC.eq; exact SzC.eq; (focus ((repeat constructor); done)); omega; omega) | (apply EvW.ldInt; exact rfl; exact ScalC.eq; assumption; omega) | (apply EvW.ldIntOwn; exact rfl; exact ScalC.eq; (focus ((repeat constructor); done)); omega) | (apply EvW.fldRow; exact rfl; exact FldC.eq; assumption; omega) | (apply EvW.fldOwn; exact rfl; exact FldC.eq; (focus ((repeat constructor); done)); omega) | (apply EvW.nilElemOwn; exact rfl; (focus ((repeat constructor); done)); omega) | (apply EvW.nilElemRow; exact rfl; assumption; omega) | (apply EvW.ldFldOwn; exact rfl; exact ScalC.eq; (focus ((repeat constructor); done)); exact fun _ => rfl; omega; exact rfl; exact inferInstance) | (apply EvW.lookup; exact rfl; exact rfl; exact UndC.eq; exact UndC.eq; exact ZvC.eq; (focus ((repeat constructor); done))) | (apply EvW.lookupOk; exact rfl; exact rfl; exact UndC.eq; exact UndC.eq; exact ZvC.eq; (focus ((repeat constructor); done))) | (apply EvW.lookupT; exact rfl; exact rfl; exact UndC.eq; exact UndC.eq; exact ZvC.eq; (focus ((repeat constructor); done)))))
      | refine WC.seq ?_ | refine WC.region ?_ | refine WL.nil ?_ | refine WE.next ?_ | refine WC.block ?_ | refine WC.skip ?_ | refine WC.exit ?_ | refine WE.pass ?_ | refine WE.hit ?_ | refine WE.miss rfl ?_ | refine WE.out ?_ | refine WC.condT rfl ?_ | refine WC.condF rfl ?_ | refine WC.ret ?_ | refine WE.passRet ?_ | refine WE.outRet ?_ | refine WL.wanted rfl rfl rfl ?_ | (apply WL.store; exact rfl; exact rfl; (first | assumption | exact rfl); exact SzC.eq; (first | assumption | exact rfl); (focus ((repeat constructor); done)))
    rw [hp2, hget]
    dsimp only [Option.getD_some]
    try refine WL.wanted rfl rfl rfl ?_
    apply WL.callA ([sepL (((zsR zs (K.take i))).map wz)])
    · exact rfl
    · exact rfl
    · exact fun w => Try.call23 _ w
    · (focus ((repeat constructor); done))
    · exact fun w1 S1 hS1 hs1 ho1 => (by have h := ready_all (zsR zs (K.take i)) (ixW xs p) w1 S1 hS1 (by omega) (by rw [hzj, hq1]; omega); rw [hzj, hset, hq1] at h; exact h)
    rintro _ _ rfl
    first | refine WL.app4 ?_ | refine WL.app3 ?_ | refine WL.app2 ?_ | refine WL.app1 ?_ | refine WL.app0 ?_ | skip
    rename_i vr
    try refine WL.wanted rfl rfl rfl ?_
    apply WL.callV ([outH ob (outR xs (K.take i))])
    · exact rfl
    · exact rfl
    · exact rfl
    · exact fun w => Try.call20 _ w
    · (focus ((repeat constructor); done))
    · exact fun w1 S1 hS1 hs1 ho1 => add_spec ob (outR xs (K.take i)) p vr (readyO (getW xs p)) w1 S1 hS1 (ho1 (.own 9 1 (vr) (readyO (getW xs p)).length ((readyO (getW xs p)).map str)) _ (by repeat constructor)).own (by omega)
    rintro _ _ ⟨rfl, rfl⟩
    first | refine WL.app4 ?_ | refine WL.app3 ?_ | refine WL.app2 ?_ | refine WL.app1 ?_ | refine WL.app0 ?_ | skip
    rw [← hst]
    repeat first
      | (apply WL.q; exact rfl; exact rfl; exact rfl; (first | (apply EvW.move; exact rfl) | (apply EvW.assign; exact rfl) | (apply EvW.nilPtr; exact rfl) | (apply EvW.fieldAddr0; exact rfl; exact FldC.eq) | (apply EvW.fieldAddr; exact rfl; exact FldC.eq) | (apply EvW.load; exact rfl; exact ScalC.eq; (focus ((repeat constructor); done)); exact rfl) | (apply EvW.ldSeen; exact rfl; exact ScalC.eq; assumption; (first | exact rfl | assumption)) | (apply EvW.ldFld; exact rfl; exact ScalC.eq; assumption; exact fun _ => rfl; omega; exact rfl; exact inferInstance) | (apply EvW.lenL; exact rfl; exact UndC.eq) | (apply EvW.cmpT; exact rfl; exact rfl; exact rfl; omega) | (apply EvW.cmpF; exact rfl; exact rfl; exact rfl; omega) | (apply EvW.cmp; exact rfl; exact rfl; exact rfl) | (apply EvW.arN; exact rfl; exact rfl; exact rfl; refine i64_in ?_ ?_ <;> omega) | (apply EvW.ar; exact rfl; exact rfl; exact rfl) | (apply EvW.loadAgg; exact rfl; exact AggC.eq; exact SzC.eq; (focus ((repeat constructor); done)); (focus ((repeat (first | exact SubL.nil | apply SubL.cons | apply SubL.succ)); done))) | (apply EvW.makeFunc; exact rfl) | (apply EvW.ldStr; exact rfl; exact ScalC.eq; assumption; omega) | (apply EvW.ldStrOwn; exact rfl; exact ScalC.eq; (focus ((repeat constructor); done)); omega) | (apply EvW.lenRow; exact rfl; exact UndC.eq; assumption) | (apply EvW.lenOwn; exact rfl; exact UndC.eq; (focus ((repeat constructor); done))) | (apply EvW.idxRow; exact rfl; exact rfl; exact UndC.eq; exact SzC.eq; assumption; omega; omega) | (apply EvW.idxOwn; exact rfl; exact rfl; exact UndC.eq; exact SzC.eq; (focus ((repeat constructor); done)); omega; omega) | (apply EvW.ldInt; exact rfl; exact ScalC.eq; assumption; omega) | (apply EvW.ldIntOwn; exact rfl; exact ScalC.eq; (focus ((repeat constructor); done)); omega) | (apply EvW.fldRow; exact rfl; exact FldC.eq; assumption; omega) | (apply EvW.fldOwn; exact rfl; exact FldC.eq; (focus ((repeat constructor); done)); omega) | (apply EvW.nilElemOwn; exact rfl; (focus ((repeat constructor); done)); omega) | (apply EvW.nilElemRow; exact rfl; assumption; omega) | (apply EvW.ldFldOwn; exact rfl; exact ScalC.eq; (focus ((repeat constructor); done)); exact fun _ => rfl; omega; exact rfl; exact inferInstance) | (apply EvW.lookup; exact rfl; exact rfl; exact UndC.eq; exact UndC.eq; exact ZvC.eq; (focus ((repeat constructor); done))) | (apply EvW.lookupOk; exact rfl; exact rfl; exact UndC.eq; exact UndC.eq; exact ZvC.eq; (focus ((repeat constructor); done))) | (apply EvW.lookupT; exact rfl; exact rfl; exact UndC.eq; exact UndC.eq; exact ZvC.eq; (focus ((repeat constructor); done)))))
      | refine WC.seq ?_ | refine WC.region ?_ | refine WL.nil ?_ | refine WE.next ?_ | refine WC.block ?_ | refine WC.skip ?_ | refine WC.exit ?_ | refine WE.pass ?_ | refine WE.hit ?_ | refine WE.miss rfl ?_ | refine WE.out ?_ | refine WC.condT rfl ?_ | refine WC.condF rfl ?_ | refine WC.ret ?_ | refine WE.passRet ?_ | refine WE.outRet ?_ | refine WL.wanted rfl rfl rfl ?_ | (apply WL.store; exact rfl; exact rfl; (first | assumption | exact rfl); exact SzC.eq; (first | assumption | exact rfl); (focus ((repeat constructor); done)))
    exact WE.again (s := i) ((i + 1)) (by omega) (by (focus ((repeat (first | exact trivial | (refine ⟨rfl, ?_⟩))); done))) (fun _ h => (by (try simp only []); exact h.keep (by repeat constructor))) (by (try simp only []); omega)
  obtain rfl : i = K.length := by omega
  rw [List.take_length]
  have hz1 : (zsR zs K).map (·.1) = xs.map readyW := by
    rw [zsR_all zs K (fun z hz' => by
      rw [hKp.mem_iff, ← hz, List.map_map]
      exact List.mem_map.2 ⟨z, hz', rfl⟩), hz]
  have hkv := zsR_kv zs K
  generalize zsR zs K = z1 at hz1 hkv
  rw [← hkv]
  have h0 : passF xs (l.take 0) = (xs.map readyW, outR xs K) := by unfold passF; rw [List.take_zero, hK]; rfl
  refine WC.keep (xs := [.blk wb #[.map (some mb)] 50, .tmap mb ((z1).map kv), sepL ((z1).map wz), outH ob (passF xs (l.take 0)).2]) (by rw [h0]; (focus ((repeat constructor); done))) ?_
  repeat first
    | (apply WL.q; exact rfl; exact rfl; exact rfl; (first | (apply EvW.move; exact rfl) | (apply EvW.assign; exact rfl) | (apply EvW.nilPtr; exact rfl) | (apply EvW.fieldAddr0; exact rfl; exact FldC.eq) | (apply EvW.fieldAddr; exact rfl; exact FldC.eq) | (apply EvW.load; exact rfl; exact ScalC.eq; (focus ((repeat constructor); done)); exact rfl) | (apply EvW.ldSeen; exact rfl; exact ScalC.eq; assumption; (first | exact rfl | assumption)) | (apply EvW.ldFld; exact rfl; exact ScalC.eq; assumption; exact fun _ => rfl; omega; exact rfl; exact inferInstance) | (apply EvW.lenL; exact rfl; exact UndC.eq) | (apply EvW.cmpT; exact rfl; exact rfl; exact rfl; omega) | (apply EvW.cmpF; exact rfl; exact rfl; exact rfl; omega) | (apply EvW.cmp; exact rfl; exact rfl; exact rfl) | (apply EvW.arN; exact rfl; exact rfl; exact rfl; refine i64_in ?_ ?_ <;> omega) | (apply EvW.ar; exact rfl; exact rfl; exact rfl) | (apply EvW.loadAgg; exact rfl; exact AggC.eq; exact SzC.eq; (focus ((repeat constructor); done)); (focus ((repeat (first | exact SubL.nil | apply SubL.cons | apply SubL.succ)); done))) | (apply EvW.makeFunc; exact rfl) | (apply EvW.ldStr; exact rfl; exact ScalC.eq; assumption; omega) | (apply EvW.ldStrOwn; exact rfl; exact ScalC.eq; (focus ((repeat constructor); done)); omega) | (apply EvW.lenRow; exact rfl; exact UndC.eq; assumption) | (apply EvW.lenOwn; exact rfl; exact UndC.eq; (focus ((repeat constructor); done))) | (apply EvW.idxRow; exact rfl; exact rfl; exact UndC.eq; exact SzC.eq; assumption; omega; omega) | (apply EvW.idxOwn; exact rfl; exact rfl; exact UndC.eq; exact SzC.eq; (focus ((repeat constructor); done)); omega; omega) | (apply EvW.ldInt; exact rfl; exact ScalC.eq; assumption; omega) | (apply EvW.ldIntOwn; exact rfl; exact ScalC.eq; (focus ((repeat constructor); done)); omega) | (apply EvW.fldRow; exact rfl; exact FldC.eq; assumption; omega) | (apply EvW.fldOwn; exact rfl; exact FldC.eq; (focus ((repeat constructor); done)); omega) | (apply EvW.nilElemOwn; exact rfl; (focus ((repeat constructor); done)); omega) | (apply EvW.nilElemRow; exact rfl; assumption; omega) | (apply EvW.ldFldOwn; exact rfl; exact ScalC.eq; (focus ((repeat constructor); done)); exact fun _ => rfl; omega; exact rfl; exact inferInstance) | (apply EvW.lookup; exact rfl; exact rfl; exact UndC.eq; exact UndC.eq; exact ZvC.eq; (focus ((repeat constructor); done))) | (apply EvW.lookupOk; exact rfl; exact rfl; exact UndC.eq; exact UndC.eq; exact ZvC.eq; (focus ((repeat constructor); done))) | (apply EvW.lookupT; exact rfl; exact rfl; exact UndC.eq; exact UndC.eq; exact ZvC.eq; (focus ((repeat constructor); done)))))
    | refine WC.seq ?_ | refine WC.region ?_ | refine WL.nil ?_ | refine WE.next ?_ | refine WC.block ?_ | refine WC.skip ?_ | refine WC.exit ?_ | refine WE.pass ?_ | refine WE.hit ?_ | refine WE.miss rfl ?_ | refine WE.out ?_ | refine WC.condT rfl ?_ | refine WC.condF rfl ?_ | refine WC.ret ?_ | refine WE.passRet ?_ | refine WE.outRet ?_ | refine WL.wanted rfl rfl rfl ?_ | (apply WL.store; exact rfl; exact rfl; (first | assumption | exact rfl); exact SzC.eq; (first | assumption | exact rfl); (focus ((repeat constructor); done)))
  refine WC.loopK (σ := Nat × Zs) [0, 5, 6, 34, 35] (fun s => [(36, i64 s.1)]) (fun s => [.blk wb #[.map (some mb)] 50, .tmap mb ((s.2).map kv), sepL ((s.2).map wz), outH ob (passF xs (l.take s.1)).2]) (fun s => s.1 ≤ l.length ∧ s.2.map (·.1) = (passF xs (l.take s.1)).1) (fun s => l.length - s.1) (0, z1) (by (focus ((repeat (first | exact Pick.nil | (apply Pick.cons; exact rfl))); done))) (by (focus ((repeat (first | exact trivial | (refine ⟨rfl, ?_⟩))); done))) (fun _ h => h.keep (by repeat constructor)) ⟨Nat.zero_le _, by rw [h0]; exact hz1⟩ (fun s hs => ?_)
  obtain ⟨i, zz⟩ := s
  simp only [List.cons_append, List.nil_append] at hs ⊢
  obtain ⟨hi0, hzz⟩ := hs
  by_cases hlt2 : (i : Int) < l.length
  · have hi : i < l.length := by omega
    have hbd := pass_bd xs (l.take i) hk.nodup
    have hstep := pass_take xs l i hi
    have htl : (l.getD i default).2.length ≤ 140737488355328 := ht _ (by rw [List.getD_eq_getElem?_getD, List.getElem?_eq_getElem hi]; exact List.getElem_mem hi)
    rw [List.length_take] at hbd
    obtain ⟨sv, hsv⟩ : ∃ sv, passF xs (l.take i) = sv := ⟨_, rfl⟩
    rw [hsv] at hzz hbd hstep ⊢
    repeat first
      | (apply WL.q; exact rfl; exact rfl; exact rfl; (first | (apply EvW.move; exact rfl) | (apply EvW.assign; exact rfl) | (apply EvW.nilPtr; exact rfl) | (apply EvW.fieldAddr0; exact rfl; exact FldC.eq) | (apply EvW.fieldAddr; exact rfl; exact FldC.eq) | (apply EvW.load; exact rfl; exact ScalC.eq; (focus ((repeat constructor); done)); exact rfl) | (apply EvW.ldSeen; exact rfl; exact ScalC.eq; assumption; (first | exact rfl | assumption)) | (apply EvW.ldFld; exact rfl; exact ScalC.eq; assumption; exact fun _ => rfl; omega; exact rfl; exact inferInstance) | (apply EvW.lenL; exact rfl; exact UndC.eq) | (apply EvW.cmpT; exact rfl; exact rfl; exact rfl; omega) | (apply EvW.cmpF; exact rfl; exact rfl; exact rfl; omega) | (apply EvW.cmp; exact rfl; exact rfl; exact rfl) | (apply EvW.arN; exact rfl; exact rfl; exact rfl; refine i64_in ?_ ?_ <;> omega) | (apply EvW.ar; exact rfl; exact rfl; exact rfl) | (apply EvW.loadAgg; exact rfl; exact AggC.eq; exact SzC.eq; (focus ((repeat constructor); done)); (focus ((repeat (first | exact SubL.nil | apply SubL.cons | apply SubL.succ)); done))) | (apply EvW.makeFunc; exact rfl) | (apply EvW.ldStr; exact rfl; exact ScalC.eq; assumption; omega) | (apply EvW.ldStrOwn; exact rfl; exact ScalC.eq; (focus ((repeat constructor); done)); omega) | (apply EvW.lenRow; exact rfl; exact UndC.eq; assumption) | (apply EvW.lenOwn; exact rfl; exact UndC.eq; (focus ((repeat constructor); done))) | (apply EvW.idxRow; exact rfl; exact rfl; exact UndC.eq; exact SzC.eq; assumption; omega; omega) | (apply EvW.idxOwn; exact rfl; exact rfl; exact UndC.eq; exact SzC.eq; (focus ((repeat constructor); done)); omega; omega) | (apply EvW.ldInt; exact rfl; exact ScalC.eq; assumption; omega) | (apply EvW.ldIntOwn; exact rfl; exact ScalC.eq; (focus ((repeat constructor); done)); omega) | (apply EvW.fldRow; exact rfl; exact FldC.eq; assumption; omega) | (apply EvW.fldOwn; exact rfl; exact FldC.eq; (focus ((repeat constructor); done)); omega) | (apply EvW.nilElemOwn; exact rfl; (focus ((repeat constructor); done)); omega) | (apply EvW.nilElemRow; exact rfl; assumption; omega) | (apply EvW.ldFldOwn; exact rfl; exact ScalC.eq; (focus ((repeat constructor); done)); exact fun _ => rfl; omega; exact rfl; exact inferInstance) | (apply EvW.lookup; exact rfl; exact rfl; exact UndC.eq; exact UndC.eq; exact ZvC.eq; (focus ((repeat constructor); done))) | (apply EvW.lookupOk; exact rfl; exact rfl; exact UndC.eq; exact UndC.eq; exact ZvC.eq; (focus ((repeat constructor); done))) | (apply EvW.lookupT; exact rfl; exact rfl; exact UndC.eq; exact UndC.eq; exact ZvC.eq; (focus ((repeat constructor); done)))))
      | refine WC.seq ?_ | refine WC.region ?_ | refine WL.nil ?_ | refine WE.next ?_ | refine WC.block ?_ | refine WC.skip ?_ | refine WC.exit ?_ | refine WE.pass ?_ | refine WE.hit ?_ | refine WE.miss rfl ?_ | refine WE.out ?_ | refine WC.condT rfl ?_ | refine WC.condF rfl ?_ | refine WC.ret ?_ | refine WE.passRet ?_ | refine WE.outRet ?_ | refine WL.wanted rfl rfl rfl ?_ | (apply WL.store; exact rfl; exact rfl; (first | assumption | exact rfl); exact SzC.eq; (first | assumption | exact rfl); (focus ((repeat constructor); done)))
    (apply WL.q; exact rfl; exact rfl; exact rfl; (apply EvW.ldElem (xs := l) (z := (default : Tel)) (f := telC); exact rfl; exact AggC.eq; exact SzC.eq; exact rfl; exact fun _ => rfl; assumption; omega))
    try refine WL.wanted rfl rfl rfl ?_
    (apply WL.alloc; exact rfl; exact ZvC.eq; exact rfl; intro tb)
    rw [show ((i : Nat) : Int).toNat = i from rfl]
    obtain ⟨t, htt⟩ : ∃ t, l.getD i default = t := ⟨_, rfl⟩
    rw [htt] at hstep htl ⊢
    obtain ⟨q, hqq⟩ : ∃ q, (ofF sv.1 t.1).getD (ixW sv.1 t.1) default = q := ⟨_, rfl⟩
    have hjb : ∀ b, ixW sv.1 t.1 < (ofZ zz t.1 b).length := fun b => by have := ixW_of zz t.1 b; rw [hzz] at this; exact this
    have hqb : ∀ b, ((ofZ zz t.1 b).getD (ixW sv.1 t.1) default).1 = q := fun b => by
      rw [← map_getD (·.1) _ _ (hjb b), ofZ_fst, hzz]; exact hqq
    have hqs : wSize q ≤ underF sv.1 := by rw [← hqq, ← under_of sv.1 t.1]; exact sum_at _ _
    have hil := inO_le q t.2
    have hs1 : stepF sv t = ((ofF sv.1 t.1).set (ixW sv.1 t.1) (inW q t.2), sv.2 ++ telsOf t.1 (inO q t.2)) := by unfold stepF; rw [hqq]
    repeat first
      | (apply WL.q; exact rfl; exact rfl; exact rfl; (first | (apply EvW.move; exact rfl) | (apply EvW.assign; exact rfl) | (apply EvW.nilPtr; exact rfl) | (apply EvW.fieldAddr0; exact rfl; exact FldC.eq) | (apply EvW.fieldAddr; exact rfl; exact FldC.eq) | (apply EvW.load; exact rfl; exact ScalC.eq; (focus ((repeat constructor); done)); exact rfl) | (apply EvW.ldSeen; exact rfl; exact ScalC.eq; assumption; (first | exact rfl | assumption)) | (apply EvW.ldFld; exact rfl; exact ScalC.eq; assumption; exact fun _ => rfl; omega; exact rfl; exact inferInstance) | (apply EvW.lenL; exact rfl; exact UndC.eq) | (apply EvW.cmpT; exact rfl; exact rfl; exact rfl; omega) | (apply EvW.cmpF; exact rfl; exact rfl; exact rfl; omega) | (apply EvW.cmp; exact rfl; exact rfl; exact rfl) | (apply EvW.arN; exact rfl; exact rfl; exact rfl; refine i64_in ?_ ?_ <;> omega) | (apply EvW.ar; exact rfl; exact rfl; exact rfl) | (apply EvW.loadAgg; exact rfl; exact AggC.eq; exact SzC.eq; (focus ((repeat constructor); done)); (focus ((repeat (first | exact SubL.nil | apply SubL.cons | apply SubL.succ)); done))) | (apply EvW.makeFunc; exact rfl) | (apply EvW.ldStr; exact rfl; exact ScalC.eq; assumption; omega) | (apply EvW.ldStrOwn; exact rfl; exact ScalC.eq; (focus ((repeat constructor); done)); omega) | (apply EvW.lenRow; exact rfl; exact UndC.eq; assumption) | (apply EvW.lenOwn; exact rfl; exact UndC.eq; (focus ((repeat constructor); done))) | (apply EvW.idxRow; exact rfl; exact rfl; exact UndC.eq; exact SzC.eq; assumption; omega; omega) | (apply EvW.idxOwn; exact rfl; exact rfl; exact UndC.eq; exact SzC.eq; (focus ((repeat constructor); done)); omega; omega) | (apply EvW.ldInt; exact rfl; exact ScalC.eq; assumption; omega) | (apply EvW.ldIntOwn; exact rfl; exact ScalC.eq; (focus ((repeat constructor); done)); omega) | (apply EvW.fldRow; exact rfl; exact FldC.eq; assumption; omega) | (apply EvW.fldOwn; exact rfl; exact FldC.eq; (focus ((repeat constructor); done)); omega) | (apply EvW.nilElemOwn; exact rfl; (focus ((repeat constructor); done)); omega) | (apply EvW.nilElemRow; exact rfl; assumption; omega) | (apply EvW.ldFldOwn; exact rfl; exact ScalC.eq; (focus ((repeat constructor); done)); exact fun _ => rfl; omega; exact rfl; exact inferInstance) | (apply EvW.lookup; exact rfl; exact rfl; exact UndC.eq; exact UndC.eq; exact ZvC.eq; (focus ((repeat constructor); done))) | (apply EvW.lookupOk; exact rfl; exact rfl; exact UndC.eq; exact UndC.eq; exact ZvC.eq; (focus ((repeat constructor); done))) | (apply EvW.lookupT; exact rfl; exact rfl; exact UndC.eq; exact UndC.eq; exact ZvC.eq; (focus ((repeat constructor); done)))))
      | refine WC.seq ?_ | refine WC.region ?_ | refine WL.nil ?_ | refine WE.next ?_ | refine WC.block ?_ | refine WC.skip ?_ | refine WC.exit ?_ | refine WE.pass ?_ | refine WE.hit ?_ | refine WE.miss rfl ?_ | refine WE.out ?_ | refine WC.condT rfl ?_ | refine WC.condF rfl ?_ | refine WC.ret ?_ | refine WE.passRet ?_ | refine WE.outRet ?_ | refine WL.wanted rfl rfl rfl ?_ | (apply WL.store; exact rfl; exact rfl; (first | assumption | exact rfl); exact SzC.eq; (first | assumption | exact rfl); (focus ((repeat constructor); done)))
    repeat refine WC.seq ?_
    refine WC.keep (xs := [.blk wb #[.map (some mb)] 50, .tmap mb ((zz).map kv), sepL ((zz).map wz), outH ob sv.2, .blk tb #[i64 t.1, str t.2] 34]) (by repeat constructor) ?_
    apply WC.par _ (fun c : Ch => [.blk wb #[.map (some mb)] 50, .blk wb #[.map (some mb)] 50, .tmap mb ((zz).map kv), .tmap mb (((ofZ zz t.1 (c 6).1)).map kv), sepL ((zz).map wz), sepL (((ofZ zz t.1 (c 6).1)).map wz), sepL ((((ofZ zz t.1 (c 6).1).set (ixW sv.1 t.1) (inW q t.2, ((ofZ zz t.1 (c 6).1).getD (ixW sv.1 t.1) default).2))).map wz), .own 9 1 ((c 9).2) (inO q t.2).length ((inO q t.2).map str), outH ob sv.2, outH ob (sv.2 ++ telsOf t.1 (inO q t.2)), .blk tb #[i64 t.1, str t.2] 34]) [none, some 6, none, some 6, none, some 6, some 9, some 9, none, some 10, none] [some 6, none, some 6, none, some 6, some 9, none, none, some 10, none, none] [(6, fun x => ptr ((ofZ zz t.1 x.1).getD (ixW sv.1 t.1) default).2 0), (9, fun x => x.2)] Try.mixed
    · (focus ((repeat (first | exact Restr.nil | (apply Restr.keep; exact rfl; exact rfl) | (apply Restr.drop; exact rfl))); done))
    · intro c; exact (by repeat constructor)
    · exact rfl
    · decide +kernel
    · decide +kernel
    · intro c
      (apply Par.quiet _ [false, false, false, false, false, false, false, false, true, false, true]; exact rfl; decide +kernel; exact rfl; intro R; refine ⟨_, (by repeat constructor), ?_⟩;
           (first | (apply EvW.move; exact rfl) | (apply EvW.assign; exact rfl) | (apply EvW.nilPtr; exact rfl) | (apply EvW.fieldAddr0; exact rfl; exact FldC.eq) | (apply EvW.fieldAddr; exact rfl; exact FldC.eq) | (apply EvW.load; exact rfl; exact ScalC.eq; (focus ((repeat constructor); done)); exact rfl) | (apply EvW.ldSeen; exact rfl; exact ScalC.eq; assumption; (first | exact rfl | assumption)) | (apply EvW.ldFld; exact rfl; exact ScalC.eq; assumption; exact fun _ => rfl; omega; exact rfl; exact inferInstance) | (apply EvW.lenL; exact rfl; exact UndC.eq) | (apply EvW.cmpT; exact rfl; exact rfl; exact rfl; omega) | (apply EvW.cmpF; exact rfl; exact rfl; exact rfl; omega) | (apply EvW.cmp; exact rfl; exact rfl; exact rfl) | (apply EvW.arN; exact rfl; exact rfl; exact rfl; refine i64_in ?_ ?_ <;> omega) | (apply EvW.ar; exact rfl; exact rfl; exact rfl) | (apply EvW.loadAgg; exact rfl; exact AggC.eq; exact SzC.eq; (focus ((repeat constructor); done)); (focus ((repeat (first | exact SubL.nil | apply SubL.cons | apply SubL.succ)); done))) | (apply EvW.makeFunc; exact rfl) | (apply EvW.ldStr; exact rfl; exact ScalC.eq; assumption; omega) | (apply EvW.ldStrOwn; exact rfl; exact ScalC.eq; (focus ((repeat constructor); done)); omega) | (apply EvW.lenRow; exact rfl; exact UndC.eq; assumption) | (apply EvW.lenOwn; exact rfl; exact UndC.eq; (focus ((repeat constructor); done))) | (apply EvW.idxRow; exact rfl; exact rfl; exact UndC.eq; exact SzC.eq; assumption; omega; omega) | (apply EvW.idxOwn; exact rfl; exact rfl; exact UndC.eq; exact SzC.eq; (focus ((repeat constructor); done)); omega; omega) | (apply EvW.ldInt; exact rfl; exact ScalC.eq; assumption; omega) | (apply EvW.ldIntOwn; exact rfl; exact ScalC.eq; (focus ((repeat constructor); done)); omega) | (apply EvW.fldRow; exact rfl; exact FldC.eq; assumption; omega) | (apply EvW.fldOwn; exact rfl; exact FldC.eq; (focus ((repeat constructor); done)); omega) | (apply EvW.nilElemOwn; exact rfl; (focus ((repeat constructor); done)); omega) | (apply EvW.nilElemRow; exact rfl; assumption; omega) | (apply EvW.ldFldOwn; exact rfl; exact ScalC.eq; (focus ((repeat constructor); done)); exact fun _ => rfl; omega; exact rfl; exact inferInstance) | (apply EvW.lookup; exact rfl; exact rfl; exact UndC.eq; exact UndC.eq; exact ZvC.eq; (focus ((repeat constructor); done))) | (apply EvW.lookupOk; exact rfl; exact rfl; exact UndC.eq; exact UndC.eq; exact ZvC.eq; (focus ((repeat constructor); done))) | (apply EvW.lookupT; exact rfl; exact rfl; exact UndC.eq; exact UndC.eq; exact ZvC.eq; (focus ((repeat constructor); done)))))
      (apply Par.quiet _ [false, false, false, false, false, false, false, false, true, false, true]; exact rfl; decide +kernel; exact rfl; intro R; refine ⟨_, (by repeat constructor), ?_⟩;
           (first | (apply EvW.move; exact rfl) | (apply EvW.assign; exact rfl) | (apply EvW.nilPtr; exact rfl) | (apply EvW.fieldAddr0; exact rfl; exact FldC.eq) | (apply EvW.fieldAddr; exact rfl; exact FldC.eq) | (apply EvW.load; exact rfl; exact ScalC.eq; (focus ((repeat constructor); done)); exact rfl) | (apply EvW.ldSeen; exact rfl; exact ScalC.eq; assumption; (first | exact rfl | assumption)) | (apply EvW.ldFld; exact rfl; exact ScalC.eq; assumption; exact fun _ => rfl; omega; exact rfl; exact inferInstance) | (apply EvW.lenL; exact rfl; exact UndC.eq) | (apply EvW.cmpT; exact rfl; exact rfl; exact rfl; omega) | (apply EvW.cmpF; exact rfl; exact rfl; exact rfl; omega) | (apply EvW.cmp; exact rfl; exact rfl; exact rfl) | (apply EvW.arN; exact rfl; exact rfl; exact rfl; refine i64_in ?_ ?_ <;> omega) | (apply EvW.ar; exact rfl; exact rfl; exact rfl) | (apply EvW.loadAgg; exact rfl; exact AggC.eq; exact SzC.eq; (focus ((repeat constructor); done)); (focus ((repeat (first | exact SubL.nil | apply SubL.cons | apply SubL.succ)); done))) | (apply EvW.makeFunc; exact rfl) | (apply EvW.ldStr; exact rfl; exact ScalC.eq; assumption; omega) | (apply EvW.ldStrOwn; exact rfl; exact ScalC.eq; (focus ((repeat constructor); done)); omega) | (apply EvW.lenRow; exact rfl; exact UndC.eq; assumption) | (apply EvW.lenOwn; exact rfl; exact UndC.eq; (focus ((repeat constructor); done))) | (apply EvW.idxRow; exact rfl; exact rfl; exact UndC.eq; exact SzC.eq; assumption; omega; omega) | (apply EvW.idxOwn; exact rfl; exact rfl; exact UndC.eq; exact SzC.eq; (focus ((repeat constructor); done)); omega; omega) | (apply EvW.ldInt; exact rfl; exact ScalC.eq; assumption; omega) | (apply EvW.ldIntOwn; exact rfl; exact ScalC.eq; (focus ((repeat constructor); done)); omega) | (apply EvW.fldRow; exact rfl; exact FldC.eq; assumption; omega) | (apply EvW.fldOwn; exact rfl; exact FldC.eq; (focus ((repeat constructor); done)); omega) | (apply EvW.nilElemOwn; exact rfl; (focus ((repeat constructor); done)); omega) | (apply EvW.nilElemRow; exact rfl; assumption; omega) | (apply EvW.ldFldOwn; exact rfl; exact ScalC.eq; (focus ((repeat constructor); done)); exact fun _ => rfl; omega; exact rfl; exact inferInstance) | (apply EvW.lookup; exact rfl; exact rfl; exact UndC.eq; exact UndC.eq; exact ZvC.eq; (focus ((repeat constructor); done))) | (apply EvW.lookupOk; exact rfl; exact rfl; exact UndC.eq; exact UndC.eq; exact ZvC.eq; (focus ((repeat constructor); done))) | (apply EvW.lookupT; exact rfl; exact rfl; exact UndC.eq; exact UndC.eq; exact ZvC.eq; (focus ((repeat constructor); done)))))
      (apply Par.quiet _ [false, false, false, false, false, false, false, false, true, false, true]; exact rfl; decide +kernel; exact rfl; intro R; refine ⟨_, (by repeat constructor), ?_⟩;
           (first | (apply EvW.move; exact rfl) | (apply EvW.assign; exact rfl) | (apply EvW.nilPtr; exact rfl) | (apply EvW.fieldAddr0; exact rfl; exact FldC.eq) | (apply EvW.fieldAddr; exact rfl; exact FldC.eq) | (apply EvW.load; exact rfl; exact ScalC.eq; (focus ((repeat constructor); done)); exact rfl) | (apply EvW.ldSeen; exact rfl; exact ScalC.eq; assumption; (first | exact rfl | assumption)) | (apply EvW.ldFld; exact rfl; exact ScalC.eq; assumption; exact fun _ => rfl; omega; exact rfl; exact inferInstance) | (apply EvW.lenL; exact rfl; exact UndC.eq) | (apply EvW.cmpT; exact rfl; exact rfl; exact rfl; omega) | (apply EvW.cmpF; exact rfl; exact rfl; exact rfl; omega) | (apply EvW.cmp; exact rfl; exact rfl; exact rfl) | (apply EvW.arN; exact rfl; exact rfl; exact rfl; refine i64_in ?_ ?_ <;> omega) | (apply EvW.ar; exact rfl; exact rfl; exact rfl) | (apply EvW.loadAgg; exact rfl; exact AggC.eq; exact SzC.eq; (focus ((repeat constructor); done)); (focus ((repeat (first | exact SubL.nil | apply SubL.cons | apply SubL.succ)); done))) | (apply EvW.makeFunc; exact rfl) | (apply EvW.ldStr; exact rfl; exact ScalC.eq; assumption; omega) | (apply EvW.ldStrOwn; exact rfl; exact ScalC.eq; (focus ((repeat constructor); done)); omega) | (apply EvW.lenRow; exact rfl; exact UndC.eq; assumption) | (apply EvW.lenOwn; exact rfl; exact UndC.eq; (focus ((repeat constructor); done))) | (apply EvW.idxRow; exact rfl; exact rfl; exact UndC.eq; exact SzC.eq; assumption; omega; omega) | (apply EvW.idxOwn; exact rfl; exact rfl; exact UndC.eq; exact SzC.eq; (focus ((repeat constructor); done)); omega; omega) | (apply EvW.ldInt; exact rfl; exact ScalC.eq; assumption; omega) | (apply EvW.ldIntOwn; exact rfl; exact ScalC.eq; (focus ((repeat constructor); done)); omega) | (apply EvW.fldRow; exact rfl; exact FldC.eq; assumption; omega) | (apply EvW.fldOwn; exact rfl; exact FldC.eq; (focus ((repeat constructor); done)); omega) | (apply EvW.nilElemOwn; exact rfl; (focus ((repeat constructor); done)); omega) | (apply EvW.nilElemRow; exact rfl; assumption; omega) | (apply EvW.ldFldOwn; exact rfl; exact ScalC.eq; (focus ((repeat constructor); done)); exact fun _ => rfl; omega; exact rfl; exact inferInstance) | (apply EvW.lookup; exact rfl; exact rfl; exact UndC.eq; exact UndC.eq; exact ZvC.eq; (focus ((repeat constructor); done))) | (apply EvW.lookupOk; exact rfl; exact rfl; exact UndC.eq; exact UndC.eq; exact ZvC.eq; (focus ((repeat constructor); done))) | (apply EvW.lookupT; exact rfl; exact rfl; exact UndC.eq; exact UndC.eq; exact ZvC.eq; (focus ((repeat constructor); done)))))
      (apply Par.quiet _ [true, false, true, false, true, false, false, false, true, false, true]; exact rfl; decide +kernel; exact rfl; intro R; refine ⟨_, (by repeat constructor), ?_⟩;
           (first | (apply EvW.move; exact rfl) | (apply EvW.assign; exact rfl) | (apply EvW.nilPtr; exact rfl) | (apply EvW.fieldAddr0; exact rfl; exact FldC.eq) | (apply EvW.fieldAddr; exact rfl; exact FldC.eq) | (apply EvW.load; exact rfl; exact ScalC.eq; (focus ((repeat constructor); done)); exact rfl) | (apply EvW.ldSeen; exact rfl; exact ScalC.eq; assumption; (first | exact rfl | assumption)) | (apply EvW.ldFld; exact rfl; exact ScalC.eq; assumption; exact fun _ => rfl; omega; exact rfl; exact inferInstance) | (apply EvW.lenL; exact rfl; exact UndC.eq) | (apply EvW.cmpT; exact rfl; exact rfl; exact rfl; omega) | (apply EvW.cmpF; exact rfl; exact rfl; exact rfl; omega) | (apply EvW.cmp; exact rfl; exact rfl; exact rfl) | (apply EvW.arN; exact rfl; exact rfl; exact rfl; refine i64_in ?_ ?_ <;> omega) | (apply EvW.ar; exact rfl; exact rfl; exact rfl) | (apply EvW.loadAgg; exact rfl; exact AggC.eq; exact SzC.eq; (focus ((repeat constructor); done)); (focus ((repeat (first | exact SubL.nil | apply SubL.cons | apply SubL.succ)); done))) | (apply EvW.makeFunc; exact rfl) | (apply EvW.ldStr; exact rfl; exact ScalC.eq; assumption; omega) | (apply EvW.ldStrOwn; exact rfl; exact ScalC.eq; (focus ((repeat constructor); done)); omega) | (apply EvW.lenRow; exact rfl; exact UndC.eq; assumption) | (apply EvW.lenOwn; exact rfl; exact UndC.eq; (focus ((repeat constructor); done))) | (apply EvW.idxRow; exact rfl; exact rfl; exact UndC.eq; exact SzC.eq; assumption; omega; omega) | (apply EvW.idxOwn; exact rfl; exact rfl; exact UndC.eq; exact SzC.eq; (focus ((repeat constructor); done)); omega; omega) | (apply EvW.ldInt; exact rfl; exact ScalC.eq; assumption; omega) | (apply EvW.ldIntOwn; exact rfl; exact ScalC.eq; (focus ((repeat constructor); done)); omega) | (apply EvW.fldRow; exact rfl; exact FldC.eq; assumption; omega) | (apply EvW.fldOwn; exact rfl; exact FldC.eq; (focus ((repeat constructor); done)); omega) | (apply EvW.nilElemOwn; exact rfl; (focus ((repeat constructor); done)); omega) | (apply EvW.nilElemRow; exact rfl; assumption; omega) | (apply EvW.ldFldOwn; exact rfl; exact ScalC.eq; (focus ((repeat constructor); done)); exact fun _ => rfl; omega; exact rfl; exact inferInstance) | (apply EvW.lookup; exact rfl; exact rfl; exact UndC.eq; exact UndC.eq; exact ZvC.eq; (focus ((repeat constructor); done))) | (apply EvW.lookupOk; exact rfl; exact rfl; exact UndC.eq; exact UndC.eq; exact ZvC.eq; (focus ((repeat constructor); done))) | (apply EvW.lookupT; exact rfl; exact rfl; exact UndC.eq; exact UndC.eq; exact ZvC.eq; (focus ((repeat constructor); done)))))
      (apply Par.quiet _ [true, false, true, false, true, false, false, false, true, false, true]; exact rfl; decide +kernel; exact rfl; intro R; refine ⟨_, (by repeat constructor), ?_⟩;
           (first | (apply EvW.move; exact rfl) | (apply EvW.assign; exact rfl) | (apply EvW.nilPtr; exact rfl) | (apply EvW.fieldAddr0; exact rfl; exact FldC.eq) | (apply EvW.fieldAddr; exact rfl; exact FldC.eq) | (apply EvW.load; exact rfl; exact ScalC.eq; (focus ((repeat constructor); done)); exact rfl) | (apply EvW.ldSeen; exact rfl; exact ScalC.eq; assumption; (first | exact rfl | assumption)) | (apply EvW.ldFld; exact rfl; exact ScalC.eq; assumption; exact fun _ => rfl; omega; exact rfl; exact inferInstance) | (apply EvW.lenL; exact rfl; exact UndC.eq) | (apply EvW.cmpT; exact rfl; exact rfl; exact rfl; omega) | (apply EvW.cmpF; exact rfl; exact rfl; exact rfl; omega) | (apply EvW.cmp; exact rfl; exact rfl; exact rfl) | (apply EvW.arN; exact rfl; exact rfl; exact rfl; refine i64_in ?_ ?_ <;> omega) | (apply EvW.ar; exact rfl; exact rfl; exact rfl) | (apply EvW.loadAgg; exact rfl; exact AggC.eq; exact SzC.eq; (focus ((repeat constructor); done)); (focus ((repeat (first | exact SubL.nil | apply SubL.cons | apply SubL.succ)); done))) | (apply EvW.makeFunc; exact rfl) | (apply EvW.ldStr; exact rfl; exact ScalC.eq; assumption; omega) | (apply EvW.ldStrOwn; exact rfl; exact ScalC.eq; (focus ((repeat constructor); done)); omega) | (apply EvW.lenRow; exact rfl; exact UndC.eq; assumption) | (apply EvW.lenOwn; exact rfl; exact UndC.eq; (focus ((repeat constructor); done))) | (apply EvW.idxRow; exact rfl; exact rfl; exact UndC.eq; exact SzC.eq; assumption; omega; omega) | (apply EvW.idxOwn; exact rfl; exact rfl; exact UndC.eq; exact SzC.eq; (focus ((repeat constructor); done)); omega; omega) | (apply EvW.ldInt; exact rfl; exact ScalC.eq; assumption; omega) | (apply EvW.ldIntOwn; exact rfl; exact ScalC.eq; (focus ((repeat constructor); done)); omega) | (apply EvW.fldRow; exact rfl; exact FldC.eq; assumption; omega) | (apply EvW.fldOwn; exact rfl; exact FldC.eq; (focus ((repeat constructor); done)); omega) | (apply EvW.nilElemOwn; exact rfl; (focus ((repeat constructor); done)); omega) | (apply EvW.nilElemRow; exact rfl; assumption; omega) | (apply EvW.ldFldOwn; exact rfl; exact ScalC.eq; (focus ((repeat constructor); done)); exact fun _ => rfl; omega; exact rfl; exact inferInstance) | (apply EvW.lookup; exact rfl; exact rfl; exact UndC.eq; exact UndC.eq; exact ZvC.eq; (focus ((repeat constructor); done))) | (apply EvW.lookupOk; exact rfl; exact rfl; exact UndC.eq; exact UndC.eq; exact ZvC.eq; (focus ((repeat constructor); done))) | (apply EvW.lookupT; exact rfl; exact rfl; exact UndC.eq; exact UndC.eq; exact ZvC.eq; (focus ((repeat constructor); done)))))
      (apply Par.quiet _ [true, false, true, false, true, false, false, false, true, false, true]; exact rfl; decide +kernel; exact rfl; intro R; refine ⟨_, (by repeat constructor), ?_⟩;
           (first | (apply EvW.move; exact rfl) | (apply EvW.assign; exact rfl) | (apply EvW.nilPtr; exact rfl) | (apply EvW.fieldAddr0; exact rfl; exact FldC.eq) | (apply EvW.fieldAddr; exact rfl; exact FldC.eq) | (apply EvW.load; exact rfl; exact ScalC.eq; (focus ((repeat constructor); done)); exact rfl) | (apply EvW.ldSeen; exact rfl; exact ScalC.eq; assumption; (first | exact rfl | assumption)) | (apply EvW.ldFld; exact rfl; exact ScalC.eq; assumption; exact fun _ => rfl; omega; exact rfl; exact inferInstance) | (apply EvW.lenL; exact rfl; exact UndC.eq) | (apply EvW.cmpT; exact rfl; exact rfl; exact rfl; omega) | (apply EvW.cmpF; exact rfl; exact rfl; exact rfl; omega) | (apply EvW.cmp; exact rfl; exact rfl; exact rfl) | (apply EvW.arN; exact rfl; exact rfl; exact rfl; refine i64_in ?_ ?_ <;> omega) | (apply EvW.ar; exact rfl; exact rfl; exact rfl) | (apply EvW.loadAgg; exact rfl; exact AggC.eq; exact SzC.eq; (focus ((repeat constructor); done)); (focus ((repeat (first | exact SubL.nil | apply SubL.cons | apply SubL.succ)); done))) | (apply EvW.makeFunc; exact rfl) | (apply EvW.ldStr; exact rfl; exact ScalC.eq; assumption; omega) | (apply EvW.ldStrOwn; exact rfl; exact ScalC.eq; (focus ((repeat constructor); done)); omega) | (apply EvW.lenRow; exact rfl; exact UndC.eq; assumption) | (apply EvW.lenOwn; exact rfl; exact UndC.eq; (focus ((repeat constructor); done))) | (apply EvW.idxRow; exact rfl; exact rfl; exact UndC.eq; exact SzC.eq; assumption; omega; omega) | (apply EvW.idxOwn; exact rfl; exact rfl; exact UndC.eq; exact SzC.eq; (focus ((repeat constructor); done)); omega; omega) | (apply EvW.ldInt; exact rfl; exact ScalC.eq; assumption; omega) | (apply EvW.ldIntOwn; exact rfl; exact ScalC.eq; (focus ((repeat constructor); done)); omega) | (apply EvW.fldRow; exact rfl; exact FldC.eq; assumption; omega) | (apply EvW.fldOwn; exact rfl; exact FldC.eq; (focus ((repeat constructor); done)); omega) | (apply EvW.nilElemOwn; exact rfl; (focus ((repeat constructor); done)); omega) | (apply EvW.nilElemRow; exact rfl; assumption; omega) | (apply EvW.ldFldOwn; exact rfl; exact ScalC.eq; (focus ((repeat constructor); done)); exact fun _ => rfl; omega; exact rfl; exact inferInstance) | (apply EvW.lookup; exact rfl; exact rfl; exact UndC.eq; exact UndC.eq; exact ZvC.eq; (focus ((repeat constructor); done))) | (apply EvW.lookupOk; exact rfl; exact rfl; exact UndC.eq; exact UndC.eq; exact ZvC.eq; (focus ((repeat constructor); done))) | (apply EvW.lookupT; exact rfl; exact rfl; exact UndC.eq; exact UndC.eq; exact ZvC.eq; (focus ((repeat constructor); done)))))
      apply Par.new _ [true, false, true, false, true, false, false, false, false, false, false] [false, true, false, true, false, true, false, false, false, false, false] [false, false, false, false, false, false, false, false, true, false, true]
      · exact rfl
      · exact rfl
      · decide +kernel
      · intro R
        refine ⟨_, _, _, (by repeat constructor), (by repeat constructor), (fun x => (by repeat constructor)), ?_⟩
        apply NewW.callA ([.blk wb #[.map (some mb)] 50, .tmap mb ((zz).map kv), sepL ((zz).map wz)]) (fun x => [.blk wb #[.map (some mb)] 50, .tmap mb (((ofZ zz t.1 x.1)).map kv), sepL (((ofZ zz t.1 x.1)).map wz)])
        · exact rfl
        · exact fun w => Try.call19 _ w
        · (focus ((repeat constructor); done))
        · exact fun w1 S1 hS1 hs1 ho1 => (by have h := of_spec zz wb mb t.1 w1 S1 hS1; rw [hzz] at h; exact h)
        · rintro _ _ ⟨b, rfl, rfl⟩; exact ⟨(b, undef), rfl, rfl⟩
        · exact fun x _ h => TakeT.st (by (focus ((repeat (first | exact TakeT.tail | apply TakeT.cons | exact Take.head | apply Take.tail | apply TakeT.drop)); done))) h
      (apply Par.quiet _ [false, false, false, false, false, false, false, false, true, false, true]; exact rfl; decide +kernel; exact rfl; intro R; refine ⟨_, (by repeat constructor), ?_⟩;
           (first | (apply EvW.move; exact rfl) | (apply EvW.assign; exact rfl) | (apply EvW.nilPtr; exact rfl) | (apply EvW.fieldAddr0; exact rfl; exact FldC.eq) | (apply EvW.fieldAddr; exact rfl; exact FldC.eq) | (apply EvW.load; exact rfl; exact ScalC.eq; (focus ((repeat constructor); done)); exact rfl) | (apply EvW.ldSeen; exact rfl; exact ScalC.eq; assumption; (first | exact rfl | assumption)) | (apply EvW.ldFld; exact rfl; exact ScalC.eq; assumption; exact fun _ => rfl; omega; exact rfl; exact inferInstance) | (apply EvW.lenL; exact rfl; exact UndC.eq) | (apply EvW.cmpT; exact rfl; exact rfl; exact rfl; omega) | (apply EvW.cmpF; exact rfl; exact rfl; exact rfl; omega) | (apply EvW.cmp; exact rfl; exact rfl; exact rfl) | (apply EvW.arN; exact rfl; exact rfl; exact rfl; refine i64_in ?_ ?_ <;> omega) | (apply EvW.ar; exact rfl; exact rfl; exact rfl) | (apply EvW.loadAgg; exact rfl; exact AggC.eq; exact SzC.eq; (focus ((repeat constructor); done)); (focus ((repeat (first | exact SubL.nil | apply SubL.cons | apply SubL.succ)); done))) | (apply EvW.makeFunc; exact rfl) | (apply EvW.ldStr; exact rfl; exact ScalC.eq; assumption; omega) | (apply EvW.ldStrOwn; exact rfl; exact ScalC.eq; (focus ((repeat constructor); done)); omega) | (apply EvW.lenRow; exact rfl; exact UndC.eq; assumption) | (apply EvW.lenOwn; exact rfl; exact UndC.eq; (focus ((repeat constructor); done))) | (apply EvW.idxRow; exact rfl; exact rfl; exact UndC.eq; exact SzC.eq; assumption; omega; omega) | (apply EvW.idxOwn; exact rfl; exact rfl; exact UndC.eq; exact SzC.eq; (focus ((repeat constructor); done)); omega; omega) | (apply EvW.ldInt; exact rfl; exact ScalC.eq; assumption; omega) | (apply EvW.ldIntOwn; exact rfl; exact ScalC.eq; (focus ((repeat constructor); done)); omega) | (apply EvW.fldRow; exact rfl; exact FldC.eq; assumption; omega) | (apply EvW.fldOwn; exact rfl; exact FldC.eq; (focus ((repeat constructor); done)); omega) | (apply EvW.nilElemOwn; exact rfl; (focus ((repeat constructor); done)); omega) | (apply EvW.nilElemRow; exact rfl; assumption; omega) | (apply EvW.ldFldOwn; exact rfl; exact ScalC.eq; (focus ((repeat constructor); done)); exact fun _ => rfl; omega; exact rfl; exact inferInstance) | (apply EvW.lookup; exact rfl; exact rfl; exact UndC.eq; exact UndC.eq; exact ZvC.eq; (focus ((repeat constructor); done))) | (apply EvW.lookupOk; exact rfl; exact rfl; exact UndC.eq; exact UndC.eq; exact ZvC.eq; (focus ((repeat constructor); done))) | (apply EvW.lookupT; exact rfl; exact rfl; exact UndC.eq; exact UndC.eq; exact ZvC.eq; (focus ((repeat constructor); done)))))
      (apply Par.quiet _ [false, false, false, false, false, false, false, false, true, false, true]; exact rfl; decide +kernel; exact rfl; intro R; refine ⟨_, (by repeat constructor), ?_⟩;
           (first | (apply EvW.move; exact rfl) | (apply EvW.assign; exact rfl) | (apply EvW.nilPtr; exact rfl) | (apply EvW.fieldAddr0; exact rfl; exact FldC.eq) | (apply EvW.fieldAddr; exact rfl; exact FldC.eq) | (apply EvW.load; exact rfl; exact ScalC.eq; (focus ((repeat constructor); done)); exact rfl) | (apply EvW.ldSeen; exact rfl; exact ScalC.eq; assumption; (first | exact rfl | assumption)) | (apply EvW.ldFld; exact rfl; exact ScalC.eq; assumption; exact fun _ => rfl; omega; exact rfl; exact inferInstance) | (apply EvW.lenL; exact rfl; exact UndC.eq) | (apply EvW.cmpT; exact rfl; exact rfl; exact rfl; omega) | (apply EvW.cmpF; exact rfl; exact rfl; exact rfl; omega) | (apply EvW.cmp; exact rfl; exact rfl; exact rfl) | (apply EvW.arN; exact rfl; exact rfl; exact rfl; refine i64_in ?_ ?_ <;> omega) | (apply EvW.ar; exact rfl; exact rfl; exact rfl) | (apply EvW.loadAgg; exact rfl; exact AggC.eq; exact SzC.eq; (focus ((repeat constructor); done)); (focus ((repeat (first | exact SubL.nil | apply SubL.cons | apply SubL.succ)); done))) | (apply EvW.makeFunc; exact rfl) | (apply EvW.ldStr; exact rfl; exact ScalC.eq; assumption; omega) | (apply EvW.ldStrOwn; exact rfl; exact ScalC.eq; (focus ((repeat constructor); done)); omega) | (apply EvW.lenRow; exact rfl; exact UndC.eq; assumption) | (apply EvW.lenOwn; exact rfl; exact UndC.eq; (focus ((repeat constructor); done))) | (apply EvW.idxRow; exact rfl; exact rfl; exact UndC.eq; exact SzC.eq; assumption; omega; omega) | (apply EvW.idxOwn; exact rfl; exact rfl; exact UndC.eq; exact SzC.eq; (focus ((repeat constructor); done)); omega; omega) | (apply EvW.ldInt; exact rfl; exact ScalC.eq; assumption; omega) | (apply EvW.ldIntOwn; exact rfl; exact ScalC.eq; (focus ((repeat constructor); done)); omega) | (apply EvW.fldRow; exact rfl; exact FldC.eq; assumption; omega) | (apply EvW.fldOwn; exact rfl; exact FldC.eq; (focus ((repeat constructor); done)); omega) | (apply EvW.nilElemOwn; exact rfl; (focus ((repeat constructor); done)); omega) | (apply EvW.nilElemRow; exact rfl; assumption; omega) | (apply EvW.ldFldOwn; exact rfl; exact ScalC.eq; (focus ((repeat constructor); done)); exact fun _ => rfl; omega; exact rfl; exact inferInstance) | (apply EvW.lookup; exact rfl; exact rfl; exact UndC.eq; exact UndC.eq; exact ZvC.eq; (focus ((repeat constructor); done))) | (apply EvW.lookupOk; exact rfl; exact rfl; exact UndC.eq; exact UndC.eq; exact ZvC.eq; (focus ((repeat constructor); done))) | (apply EvW.lookupT; exact rfl; exact rfl; exact UndC.eq; exact UndC.eq; exact ZvC.eq; (focus ((repeat constructor); done)))))
      apply Par.new _ [false, false, false, false, false, true, false, false, false, false, false] [false, false, false, false, false, false, true, true, false, false, false] [false, true, false, true, false, false, false, false, true, false, true]
      · exact rfl
      · exact rfl
      · decide +kernel
      · intro R
        refine ⟨_, _, _, (by repeat constructor), (by repeat constructor), (fun x => (by repeat constructor)), ?_⟩
        apply NewW.callA ([sepL (((ofZ zz t.1 (c 6).1)).map wz)]) (fun x => [.own 9 1 (x.2) (inO q t.2).length ((inO q t.2).map str), sepL ((((ofZ zz t.1 (c 6).1).set (ixW sv.1 t.1) (inW q t.2, ((ofZ zz t.1 (c 6).1).getD (ixW sv.1 t.1) default).2))).map wz)])
        · exact rfl
        · exact fun w => Try.call24 _ w
        · (focus ((repeat constructor); done))
        · exact fun w1 S1 hS1 hs1 ho1 => (by have h := in_all (ofZ zz t.1 (c 6).1) (ixW sv.1 t.1) t.2 w1 S1 hS1 (hjb _) htl (by rw [hqb]; omega); rw [hqb] at h; exact h)
        · rintro _ _ rfl; exact ⟨(0, _), rfl, rfl⟩
        · exact fun x _ h => TakeT.st (by (focus ((repeat (first | exact TakeT.tail | apply TakeT.cons | exact Take.head | apply Take.tail | apply TakeT.drop)); done))) h
      apply Par.eff _ [false, false, false, false, false, false, false, false, true, false, false] [false, false, false, false, false, false, false, false, false, true, false] [false, true, false, true, false, false, true, true, false, false, true]
      · exact rfl
      · exact rfl
      · decide +kernel
      · intro R
        refine ⟨_, _, _, (by repeat constructor), (by repeat constructor), (by repeat constructor), ?_⟩
        (apply EffW.callTV (A1 := [outH ob sv.2]); exact rfl; exact rfl; exact fun w => Try.call20 _ w; (focus ((repeat constructor); done)); exact fun w1 S1 hS1 hs1 ho1 => add_spec ob sv.2 t.1 (c 9).2 (inO q t.2) w1 S1 hS1 (ho1 (.own 9 1 ((c 9).2) (inO q t.2).length ((inO q t.2).map str)) _ (by repeat constructor)).own (by omega); exact fun _ _ h => h; exact fun _ h => TakeT.st (by (focus ((repeat (first | exact TakeT.tail | apply TakeT.cons | exact Take.head | apply Take.tail | apply TakeT.drop)); done))) h)
      exact Par.nil
    · repeat (first | exact AllN.nil | (apply AllN.cons; (intro c x; (repeat (first | exact IndA.nil | (apply IndA.skip; decide +kernel) | apply IndA.same))))) 
    · repeat (first | exact AllN.nil | (apply AllN.cons; (intro c x; (repeat (first | exact IndT.nil | (apply IndT.skip; decide +kernel) | apply IndT.same))))) 
    · exact fun _ => rfl
    intro c
    refine ⟨_, (by repeat constructor), ?_⟩
    apply WE.writ
    · (focus ((repeat (first | exact Writ.nil | apply Writ.some | apply Writ.none)); done))
    generalize (c 6).1 = b6
    generalize (c 9).2 = vr
    have hkv2 := kv_set (ofZ zz t.1 b6) (ixW sv.1 t.1) (inW q t.2) _ (hjb b6) (by rw [hqb]; unfold inW; split; rfl; split; rfl; rfl) rfl
    have hnx : passF xs (l.take (i + 1)) = ((ofF sv.1 t.1).set (ixW sv.1 t.1) (inW q t.2), sv.2 ++ telsOf t.1 (inO q t.2)) := by rw [hstep, hs1]
    have hfst : ((ofZ zz t.1 b6).set (ixW sv.1 t.1) (inW q t.2, ((ofZ zz t.1 b6).getD (ixW sv.1 t.1) default).2)).map (·.1) = (ofF sv.1 t.1).set (ixW sv.1 t.1) (inW q t.2) := by
      rw [List.map_set, ofZ_fst, hzz]
    rw [← hkv2]
    generalize (ofZ zz t.1 b6).set (ixW sv.1 t.1) (inW q t.2, ((ofZ zz t.1 b6).getD (ixW sv.1 t.1) default).2) = z3 at hfst
    repeat first
      | (apply WL.q; exact rfl; exact rfl; exact rfl; (first | (apply EvW.move; exact rfl) | (apply EvW.assign; exact rfl) | (apply EvW.nilPtr; exact rfl) | (apply EvW.fieldAddr0; exact rfl; exact FldC.eq) | (apply EvW.fieldAddr; exact rfl; exact FldC.eq) | (apply EvW.load; exact rfl; exact ScalC.eq; (focus ((repeat constructor); done)); exact rfl) | (apply EvW.ldSeen; exact rfl; exact ScalC.eq; assumption; (first | exact rfl | assumption)) | (apply EvW.ldFld; exact rfl; exact ScalC.eq; assumption; exact fun _ => rfl; omega; exact rfl; exact inferInstance) | (apply EvW.lenL; exact rfl; exact UndC.eq) | (apply EvW.cmpT; exact rfl; exact rfl; exact rfl; omega) | (apply EvW.cmpF; exact rfl; exact rfl; exact rfl; omega) | (apply EvW.cmp; exact rfl; exact rfl; exact rfl) | (apply EvW.arN; exact rfl; exact rfl; exact rfl; refine i64_in ?_ ?_ <;> omega) | (apply EvW.ar; exact rfl; exact rfl; exact rfl) | (apply EvW.loadAgg; exact rfl; exact AggC.eq; exact SzC.eq; (focus ((repeat constructor); done)); (focus ((repeat (first | exact SubL.nil | apply SubL.cons | apply SubL.succ)); done))) | (apply EvW.makeFunc; exact rfl) | (apply EvW.ldStr; exact rfl; exact ScalC.eq; assumption; omega) | (apply EvW.ldStrOwn; exact rfl; exact ScalC.eq; (focus ((repeat constructor); done)); omega) | (apply EvW.lenRow; exact rfl; exact UndC.eq; assumption) | (apply EvW.lenOwn; exact rfl; exact UndC.eq; (focus ((repeat constructor); done))) | (apply EvW.idxRow; exact rfl; exact rfl; exact UndC.eq; exact SzC.eq; assumption; omega; omega) | (apply EvW.idxOwn; exact rfl; exact rfl; exact UndC.eq; exact SzC.eq; (focus ((repeat constructor); done)); omega; omega) | (apply EvW.ldInt; exact rfl; exact ScalC.eq; assumption; omega) | (apply EvW.ldIntOwn; exact rfl; exact ScalC.eq; (focus ((repeat constructor); done)); omega) | (apply EvW.fldRow; exact rfl; exact FldC.eq; assumption; omega) | (apply EvW.fldOwn; exact rfl; exact FldC.eq; (focus ((repeat constructor); done)); omega) | (apply EvW.nilElemOwn; exact rfl; (focus ((repeat constructor); done)); omega) | (apply EvW.nilElemRow; exact rfl; assumption; omega) | (apply EvW.ldFldOwn; exact rfl; exact ScalC.eq; (focus ((repeat constructor); done)); exact fun _ => rfl; omega; exact rfl; exact inferInstance) | (apply EvW.lookup; exact rfl; exact rfl; exact UndC.eq; exact UndC.eq; exact ZvC.eq; (focus ((repeat constructor); done))) | (apply EvW.lookupOk; exact rfl; exact rfl; exact UndC.eq; exact UndC.eq; exact ZvC.eq; (focus ((repeat constructor); done))) | (apply EvW.lookupT; exact rfl; exact rfl; exact UndC.eq; exact UndC.eq; exact ZvC.eq; (focus ((repeat constructor); done)))))
      | refine WC.seq ?_ | refine WC.region ?_ | refine WL.nil ?_ | refine WE.next ?_ | refine WC.block ?_ | refine WC.skip ?_ | refine WC.exit ?_ | refine WE.pass ?_ | refine WE.hit ?_ | refine WE.miss rfl ?_ | refine WE.out ?_ | refine WC.condT rfl ?_ | refine WC.condF rfl ?_ | refine WC.ret ?_ | refine WE.passRet ?_ | refine WE.outRet ?_ | refine WL.wanted rfl rfl rfl ?_ | (apply WL.store; exact rfl; exact rfl; (first | assumption | exact rfl); exact SzC.eq; (first | assumption | exact rfl); (focus ((repeat constructor); done)))
    exact WE.again (s := (i, zz)) ((i + 1, z3)) ⟨by simp only []; omega, by rw [hfst, hnx]⟩ (by (focus ((repeat (first | exact trivial | (refine ⟨rfl, ?_⟩))); done))) (fun _ h => (by (try simp only []); rw [hnx]; exact h.keep (by repeat constructor))) (by (try simp only []); omega)
  · obtain rfl : i = l.length := by omega
    rw [List.take_length] at hzz ⊢
    refine WC.exH (f := fun v : Value => sepL [.blk ob #[v] 28, .own 34 2 (v) ((passF xs l).2).length (((passF xs l).2).flatMap telC)]) (by repeat constructor) fun vo => ?_
    refine WC.unpack (L := [.blk ob #[vo] 28, .own 34 2 (vo) ((passF xs l).2).length (((passF xs l).2).flatMap telC)]) .head rfl ?_
    repeat first
      | (apply WL.q; exact rfl; exact rfl; exact rfl; (first | (apply EvW.move; exact rfl) | (apply EvW.assign; exact rfl) | (apply EvW.nilPtr; exact rfl) | (apply EvW.fieldAddr0; exact rfl; exact FldC.eq) | (apply EvW.fieldAddr; exact rfl; exact FldC.eq) | (apply EvW.load; exact rfl; exact ScalC.eq; (focus ((repeat constructor); done)); exact rfl) | (apply EvW.ldSeen; exact rfl; exact ScalC.eq; assumption; (first | exact rfl | assumption)) | (apply EvW.ldFld; exact rfl; exact ScalC.eq; assumption; exact fun _ => rfl; omega; exact rfl; exact inferInstance) | (apply EvW.lenL; exact rfl; exact UndC.eq) | (apply EvW.cmpT; exact rfl; exact rfl; exact rfl; omega) | (apply EvW.cmpF; exact rfl; exact rfl; exact rfl; omega) | (apply EvW.cmp; exact rfl; exact rfl; exact rfl) | (apply EvW.arN; exact rfl; exact rfl; exact rfl; refine i64_in ?_ ?_ <;> omega) | (apply EvW.ar; exact rfl; exact rfl; exact rfl) | (apply EvW.loadAgg; exact rfl; exact AggC.eq; exact SzC.eq; (focus ((repeat constructor); done)); (focus ((repeat (first | exact SubL.nil | apply SubL.cons | apply SubL.succ)); done))) | (apply EvW.makeFunc; exact rfl) | (apply EvW.ldStr; exact rfl; exact ScalC.eq; assumption; omega) | (apply EvW.ldStrOwn; exact rfl; exact ScalC.eq; (focus ((repeat constructor); done)); omega) | (apply EvW.lenRow; exact rfl; exact UndC.eq; assumption) | (apply EvW.lenOwn; exact rfl; exact UndC.eq; (focus ((repeat constructor); done))) | (apply EvW.idxRow; exact rfl; exact rfl; exact UndC.eq; exact SzC.eq; assumption; omega; omega) | (apply EvW.idxOwn; exact rfl; exact rfl; exact UndC.eq; exact SzC.eq; (focus ((repeat constructor); done)); omega; omega) | (apply EvW.ldInt; exact rfl; exact ScalC.eq; assumption; omega) | (apply EvW.ldIntOwn; exact rfl; exact ScalC.eq; (focus ((repeat constructor); done)); omega) | (apply EvW.fldRow; exact rfl; exact FldC.eq; assumption; omega) | (apply EvW.fldOwn; exact rfl; exact FldC.eq; (focus ((repeat constructor); done)); omega) | (apply EvW.nilElemOwn; exact rfl; (focus ((repeat constructor); done)); omega) | (apply EvW.nilElemRow; exact rfl; assumption; omega) | (apply EvW.ldFldOwn; exact rfl; exact ScalC.eq; (focus ((repeat constructor); done)); exact fun _ => rfl; omega; exact rfl; exact inferInstance) | (apply EvW.lookup; exact rfl; exact rfl; exact UndC.eq; exact UndC.eq; exact ZvC.eq; (focus ((repeat constructor); done))) | (apply EvW.lookupOk; exact rfl; exact rfl; exact UndC.eq; exact UndC.eq; exact ZvC.eq; (focus ((repeat constructor); done))) | (apply EvW.lookupT; exact rfl; exact rfl; exact UndC.eq; exact UndC.eq; exact ZvC.eq; (focus ((repeat constructor); done)))))
      | refine WC.seq ?_ | refine WC.region ?_ | refine WL.nil ?_ | refine WE.next ?_ | refine WC.block ?_ | refine WC.skip ?_ | refine WC.exit ?_ | refine WE.pass ?_ | refine WE.hit ?_ | refine WE.miss rfl ?_ | refine WE.out ?_ | refine WC.condT rfl ?_ | refine WC.condF rfl ?_ | refine WC.ret ?_ | refine WE.passRet ?_ | refine WE.outRet ?_ | refine WL.wanted rfl rfl rfl ?_ | (apply WL.store; exact rfl; exact rfl; (first | assumption | exact rfl); exact SzC.eq; (first | assumption | exact rfl); (focus ((repeat constructor); done)))
    refine WE.shutW (mb := mb) (zs := zz) (by repeat constructor) ?_
    rw [hzz]
    refine WE.keep (xs := [.own 34 2 (vo) ((passF xs l).2).length (((passF xs l).2).flatMap telC), wiresH wb (passF xs l).1]) (by repeat constructor) ?_
    refine WE.ret1 rfl rfl ?_
    rfl
end Go.Proofs.Ytoaajdmacngnjaa
namespace Go.Proofs.Ytoaajdmacngnjaa
open Go.RowKit Go.BK
theorem sortI_one (a : Int) : sortI [a] = [a] := List.perm_singleton.1 (sortI_perm [a])
theorem ixW_one (q : Wr) : ixW [q] q.p = 0 := by unfold ixW; rw [if_pos rfl]
theorem ofF_one (q : Wr) : ofF [q] q.p = [q] := by unfold ofF; rw [ixW_one, if_pos (by simp)]
theorem set_nil (p m : Int) (h : 0 ≤ m ∧ m ≤ 5) : setF [] p m = [⟨p, m, [], []⟩] := by
  unfold setF
  rw [if_neg (by omega)]
  rfl
theorem set_one (q : Wr) (m : Int) (h : 0 ≤ m ∧ m ≤ 5) : setF [q] q.p m = [⟨q.p, m, q.due, q.held⟩] := by
  unfold setF updW
  rw [if_neg (by omega), ofF_one, ixW_one]
  rfl
theorem inW_p (q : Wr) (s : Txt) : (inW q s).p = q.p := by
  unfold inW
  split
  · rfl
  · split <;> rfl
theorem inW_mode (q : Wr) (s : Txt) : (inW q s).mode = q.mode := by
  unfold inW
  split
  · rfl
  · split <;> rfl
theorem inO_mode (q q' : Wr) (s : Txt) (h : q.mode = q'.mode) : inO q s = inO q' s := by unfold inO; rw [h]
theorem step_one (q : Wr) (o : List Tel) (s : Txt) : stepF ([q], o) (q.p, s) = ([inW q s], o ++ telsOf q.p (inO q s)) := by
  unfold stepF
  dsimp only
  rw [ofF_one, ixW_one]
  rfl
def inA (q : Wr) (ts : List Txt) : Wr := ts.foldl inW (readyW q)
theorem telsOf_app (p : Int) (a b : List Txt) : telsOf p (a ++ b) = telsOf p a ++ telsOf p b := List.map_append
theorem pass1 (q : Wr) (ts : List Txt) : passF [q] (telsOf q.p ts) = ([inA q ts], telsOf q.p (readyO q ++ ts.flatMap (inO q))) := by
  have e : outR [q] (sortI ([q].map (·.p))) = telsOf q.p (readyO q) := by
    rw [List.map_singleton, sortI_one]
    unfold outR getW
    rw [List.flatMap_singleton, ixW_one]
    rfl
  unfold passF
  rw [e, telsOf_app]
  have key : ∀ (ts : List Txt) (r : Wr) (o : List Tel), r.p = q.p → r.mode = q.mode → (telsOf q.p ts).foldl stepF ([r], o) = ([ts.foldl inW r], o ++ telsOf q.p (ts.flatMap (inO q))) := by
    intro ts
    induction ts with
    | nil => intro r o _ _; show ([r], o) = ([r], o ++ []); rw [List.append_nil]
    | cons s ts ih =>
      intro r o hp hm
      show ((telsOf q.p ts).foldl stepF (stepF ([r], o) (q.p, s))) = _
      rw [← hp, step_one, hp, ih (inW r s) _ (by rw [inW_p, hp]) (by rw [inW_mode, hm]), List.flatMap_cons, telsOf_app, List.append_assoc, inO_mode r q s hm]
      rfl
  exact key ts (readyW q) _ rfl rfl
theorem okx_one {q : Wr} (h : (Lit.int .i64 q.p).wf = true) : Okx [q] := ⟨by simp, fun r hr => by rw [List.mem_singleton] at hr; subst hr; exact h, by show 1 ≤ _; decide⟩
theorem under_one (q : Wr) : underF [q] = wSize q := by unfold underF; simp
set_option maxHeartbeats 1000000 in
theorem lives20_spec  (w : World) (S : BSet) (hS : (sepL []).sat S w)  :
    Tri Try.prog 9 #[] w S fun u A => u = .bool true ∧ A = [] := by
  refine Tri.enter (l := []) Try.func9 rfl Try.ntmps9 rfl [] (subA rfl) hS ?_
  repeat first
    | (apply WL.q; exact rfl; exact rfl; exact rfl; (first | (apply EvW.move; exact rfl) | (apply EvW.assign; exact rfl) | (apply EvW.fieldAddr0; exact rfl; exact FldC.eq) | (apply EvW.fieldAddr; exact rfl; exact FldC.eq) | (apply EvW.load; exact rfl; exact ScalC.eq; (focus ((repeat constructor); done)); exact rfl) | (apply EvW.ldSeen; exact rfl; exact ScalC.eq; assumption; (first | exact rfl | assumption)) | (apply EvW.ldFld; exact rfl; exact ScalC.eq; assumption; exact fun _ => rfl; omega; exact rfl; exact inferInstance) | (apply EvW.lenL; exact rfl; exact UndC.eq) | (apply EvW.cmpT; exact rfl; exact rfl; exact rfl; omega) | (apply EvW.cmpF; exact rfl; exact rfl; exact rfl; omega) | (apply EvW.cmp; exact rfl; exact rfl; exact rfl) | (apply EvW.pickT; exact rfl; exact rfl) | (apply EvW.pickF; exact rfl; exact rfl) | (apply EvW.seqS; exact rfl; exact rfl) | (apply EvW.seq; exact rfl; exact rfl) | (apply EvW.build; exact PlC.eq; exact ZvC.eq; exact rfl; exact rfl; (focus ((repeat (first | exact Fills.nil | (apply Fills.cons; exact rfl; (first | assumption | exact rfl); exact rfl) | exact SetMany.nil | apply SetMany.cons | apply SetMany.succ)); done))) | (apply EvW.peqN; exact rfl; exact rfl; exact UndC.eq) | (apply EvW.ldStr; exact rfl; exact ScalC.eq; assumption; omega) | (apply EvW.ldStrOwn; exact rfl; exact ScalC.eq; (focus ((repeat constructor); done)); omega) | (apply EvW.lenRow; exact rfl; exact UndC.eq; assumption) | (apply EvW.lenOwn; exact rfl; exact UndC.eq; (focus ((repeat constructor); done))) | (apply EvW.idxRow; exact rfl; exact rfl; exact UndC.eq; exact SzC.eq; assumption; omega; omega) | (apply EvW.idxOwn; exact rfl; exact rfl; exact UndC.eq; exact SzC.eq; (focus ((repeat constructor); done)); omega; omega) | (apply EvW.fldRow; exact rfl; exact FldC.eq; assumption; omega) | (apply EvW.fldOwn; exact rfl; exact FldC.eq; (focus ((repeat constructor); done)); omega) | (apply EvW.ldFldOwn; exact rfl; exact ScalC.eq; (focus ((repeat constructor); done)); exact fun _ => rfl; omega; exact rfl; exact inferInstance)))
    | refine WC.seq ?_ | refine WC.region ?_ | refine WL.nil ?_ | refine WE.next ?_ | refine WC.skip ?_ | refine WC.exit ?_ | refine WE.pass ?_ | refine WE.hit ?_ | refine WE.miss rfl ?_ | refine WE.out ?_ | refine WC.condT rfl ?_ | refine WC.condF rfl ?_ | refine WC.ret ?_ | refine WE.passRet ?_ | refine WE.outRet ?_ | refine WL.wanted rfl rfl rfl ?_ | refine WL.unwanted rfl rfl rfl rfl ?_ | refine WL.unwantedU rfl rfl rfl rfl ?_ | refine WL.unwanted0 rfl rfl rfl ?_
  try refine WL.wanted rfl rfl rfl ?_
  apply WL.callA ([])
  · exact rfl
  · exact rfl
  · exact fun w => Try.call10 _ w
  · (focus ((repeat constructor); done))
  · exact fun w1 S1 hS1 hs1 ho1 => wnew_spec w1 S1 hS1
  rintro _ _ ⟨wb, rfl, rfl⟩
  first | refine WL.app4 ?_ | refine WL.app3 ?_ | refine WL.app2 ?_ | refine WL.app1 ?_ | refine WL.app0 ?_ | skip
  repeat first
    | (apply WL.q; exact rfl; exact rfl; exact rfl; (first | (apply EvW.move; exact rfl) | (apply EvW.assign; exact rfl) | (apply EvW.fieldAddr0; exact rfl; exact FldC.eq) | (apply EvW.fieldAddr; exact rfl; exact FldC.eq) | (apply EvW.load; exact rfl; exact ScalC.eq; (focus ((repeat constructor); done)); exact rfl) | (apply EvW.ldSeen; exact rfl; exact ScalC.eq; assumption; (first | exact rfl | assumption)) | (apply EvW.ldFld; exact rfl; exact ScalC.eq; assumption; exact fun _ => rfl; omega; exact rfl; exact inferInstance) | (apply EvW.lenL; exact rfl; exact UndC.eq) | (apply EvW.cmpT; exact rfl; exact rfl; exact rfl; omega) | (apply EvW.cmpF; exact rfl; exact rfl; exact rfl; omega) | (apply EvW.cmp; exact rfl; exact rfl; exact rfl) | (apply EvW.pickT; exact rfl; exact rfl) | (apply EvW.pickF; exact rfl; exact rfl) | (apply EvW.seqS; exact rfl; exact rfl) | (apply EvW.seq; exact rfl; exact rfl) | (apply EvW.build; exact PlC.eq; exact ZvC.eq; exact rfl; exact rfl; (focus ((repeat (first | exact Fills.nil | (apply Fills.cons; exact rfl; (first | assumption | exact rfl); exact rfl) | exact SetMany.nil | apply SetMany.cons | apply SetMany.succ)); done))) | (apply EvW.peqN; exact rfl; exact rfl; exact UndC.eq) | (apply EvW.ldStr; exact rfl; exact ScalC.eq; assumption; omega) | (apply EvW.ldStrOwn; exact rfl; exact ScalC.eq; (focus ((repeat constructor); done)); omega) | (apply EvW.lenRow; exact rfl; exact UndC.eq; assumption) | (apply EvW.lenOwn; exact rfl; exact UndC.eq; (focus ((repeat constructor); done))) | (apply EvW.idxRow; exact rfl; exact rfl; exact UndC.eq; exact SzC.eq; assumption; omega; omega) | (apply EvW.idxOwn; exact rfl; exact rfl; exact UndC.eq; exact SzC.eq; (focus ((repeat constructor); done)); omega; omega) | (apply EvW.fldRow; exact rfl; exact FldC.eq; assumption; omega) | (apply EvW.fldOwn; exact rfl; exact FldC.eq; (focus ((repeat constructor); done)); omega) | (apply EvW.ldFldOwn; exact rfl; exact ScalC.eq; (focus ((repeat constructor); done)); exact fun _ => rfl; omega; exact rfl; exact inferInstance)))
    | refine WC.seq ?_ | refine WC.region ?_ | refine WL.nil ?_ | refine WE.next ?_ | refine WC.skip ?_ | refine WC.exit ?_ | refine WE.pass ?_ | refine WE.hit ?_ | refine WE.miss rfl ?_ | refine WE.out ?_ | refine WC.condT rfl ?_ | refine WC.condF rfl ?_ | refine WC.ret ?_ | refine WE.passRet ?_ | refine WE.outRet ?_ | refine WL.wanted rfl rfl rfl ?_ | refine WL.unwanted rfl rfl rfl rfl ?_ | refine WL.unwantedU rfl rfl rfl rfl ?_ | refine WL.unwanted0 rfl rfl rfl ?_
  try refine WL.wanted rfl rfl rfl ?_
  apply WL.callA ([wiresH wb []])
  · exact rfl
  · exact rfl
  · exact fun w => Try.call12 _ w
  · (focus ((repeat constructor); done))
  · exact fun w1 S1 hS1 hs1 ho1 => set_spec wb [] 1 5 w1 S1 hS1
  rintro _ _ ⟨rfl, rfl⟩
  first | refine WL.app4 ?_ | refine WL.app3 ?_ | refine WL.app2 ?_ | refine WL.app1 ?_ | refine WL.app0 ?_ | skip
  rw [if_neg (by decide), set_nil 1 5 (by decide)]
  repeat first
    | (apply WL.q; exact rfl; exact rfl; exact rfl; (first | (apply EvW.move; exact rfl) | (apply EvW.assign; exact rfl) | (apply EvW.fieldAddr0; exact rfl; exact FldC.eq) | (apply EvW.fieldAddr; exact rfl; exact FldC.eq) | (apply EvW.load; exact rfl; exact ScalC.eq; (focus ((repeat constructor); done)); exact rfl) | (apply EvW.ldSeen; exact rfl; exact ScalC.eq; assumption; (first | exact rfl | assumption)) | (apply EvW.ldFld; exact rfl; exact ScalC.eq; assumption; exact fun _ => rfl; omega; exact rfl; exact inferInstance) | (apply EvW.lenL; exact rfl; exact UndC.eq) | (apply EvW.cmpT; exact rfl; exact rfl; exact rfl; omega) | (apply EvW.cmpF; exact rfl; exact rfl; exact rfl; omega) | (apply EvW.cmp; exact rfl; exact rfl; exact rfl) | (apply EvW.pickT; exact rfl; exact rfl) | (apply EvW.pickF; exact rfl; exact rfl) | (apply EvW.seqS; exact rfl; exact rfl) | (apply EvW.seq; exact rfl; exact rfl) | (apply EvW.build; exact PlC.eq; exact ZvC.eq; exact rfl; exact rfl; (focus ((repeat (first | exact Fills.nil | (apply Fills.cons; exact rfl; (first | assumption | exact rfl); exact rfl) | exact SetMany.nil | apply SetMany.cons | apply SetMany.succ)); done))) | (apply EvW.peqN; exact rfl; exact rfl; exact UndC.eq) | (apply EvW.ldStr; exact rfl; exact ScalC.eq; assumption; omega) | (apply EvW.ldStrOwn; exact rfl; exact ScalC.eq; (focus ((repeat constructor); done)); omega) | (apply EvW.lenRow; exact rfl; exact UndC.eq; assumption) | (apply EvW.lenOwn; exact rfl; exact UndC.eq; (focus ((repeat constructor); done))) | (apply EvW.idxRow; exact rfl; exact rfl; exact UndC.eq; exact SzC.eq; assumption; omega; omega) | (apply EvW.idxOwn; exact rfl; exact rfl; exact UndC.eq; exact SzC.eq; (focus ((repeat constructor); done)); omega; omega) | (apply EvW.fldRow; exact rfl; exact FldC.eq; assumption; omega) | (apply EvW.fldOwn; exact rfl; exact FldC.eq; (focus ((repeat constructor); done)); omega) | (apply EvW.ldFldOwn; exact rfl; exact ScalC.eq; (focus ((repeat constructor); done)); exact fun _ => rfl; omega; exact rfl; exact inferInstance)))
    | refine WC.seq ?_ | refine WC.region ?_ | refine WL.nil ?_ | refine WE.next ?_ | refine WC.skip ?_ | refine WC.exit ?_ | refine WE.pass ?_ | refine WE.hit ?_ | refine WE.miss rfl ?_ | refine WE.out ?_ | refine WC.condT rfl ?_ | refine WC.condF rfl ?_ | refine WC.ret ?_ | refine WE.passRet ?_ | refine WE.outRet ?_ | refine WL.wanted rfl rfl rfl ?_ | refine WL.unwanted rfl rfl rfl rfl ?_ | refine WL.unwantedU rfl rfl rfl rfl ?_ | refine WL.unwanted0 rfl rfl rfl ?_
  try refine WL.wanted rfl rfl rfl ?_
  (apply WL.buildSlice; exact rfl; exact UndC.eq; exact SzC.eq; exact ZvC.eq; exact rfl; exact rfl; exact rfl; ((focus ((repeat (first | exact Flat.nil | (apply Flat.one; (first | exact rfl | assumption)) | (apply Flat.cons; exact rfl; exact rfl))); done))); exact rfl; exact rfl; intro k0)
  repeat first
    | (apply WL.q; exact rfl; exact rfl; exact rfl; (first | (apply EvW.move; exact rfl) | (apply EvW.assign; exact rfl) | (apply EvW.fieldAddr0; exact rfl; exact FldC.eq) | (apply EvW.fieldAddr; exact rfl; exact FldC.eq) | (apply EvW.load; exact rfl; exact ScalC.eq; (focus ((repeat constructor); done)); exact rfl) | (apply EvW.ldSeen; exact rfl; exact ScalC.eq; assumption; (first | exact rfl | assumption)) | (apply EvW.ldFld; exact rfl; exact ScalC.eq; assumption; exact fun _ => rfl; omega; exact rfl; exact inferInstance) | (apply EvW.lenL; exact rfl; exact UndC.eq) | (apply EvW.cmpT; exact rfl; exact rfl; exact rfl; omega) | (apply EvW.cmpF; exact rfl; exact rfl; exact rfl; omega) | (apply EvW.cmp; exact rfl; exact rfl; exact rfl) | (apply EvW.pickT; exact rfl; exact rfl) | (apply EvW.pickF; exact rfl; exact rfl) | (apply EvW.seqS; exact rfl; exact rfl) | (apply EvW.seq; exact rfl; exact rfl) | (apply EvW.build; exact PlC.eq; exact ZvC.eq; exact rfl; exact rfl; (focus ((repeat (first | exact Fills.nil | (apply Fills.cons; exact rfl; (first | assumption | exact rfl); exact rfl) | exact SetMany.nil | apply SetMany.cons | apply SetMany.succ)); done))) | (apply EvW.peqN; exact rfl; exact rfl; exact UndC.eq) | (apply EvW.ldStr; exact rfl; exact ScalC.eq; assumption; omega) | (apply EvW.ldStrOwn; exact rfl; exact ScalC.eq; (focus ((repeat constructor); done)); omega) | (apply EvW.lenRow; exact rfl; exact UndC.eq; assumption) | (apply EvW.lenOwn; exact rfl; exact UndC.eq; (focus ((repeat constructor); done))) | (apply EvW.idxRow; exact rfl; exact rfl; exact UndC.eq; exact SzC.eq; assumption; omega; omega) | (apply EvW.idxOwn; exact rfl; exact rfl; exact UndC.eq; exact SzC.eq; (focus ((repeat constructor); done)); omega; omega) | (apply EvW.fldRow; exact rfl; exact FldC.eq; assumption; omega) | (apply EvW.fldOwn; exact rfl; exact FldC.eq; (focus ((repeat constructor); done)); omega) | (apply EvW.ldFldOwn; exact rfl; exact ScalC.eq; (focus ((repeat constructor); done)); exact fun _ => rfl; omega; exact rfl; exact inferInstance)))
    | refine WC.seq ?_ | refine WC.region ?_ | refine WL.nil ?_ | refine WE.next ?_ | refine WC.skip ?_ | refine WC.exit ?_ | refine WE.pass ?_ | refine WE.hit ?_ | refine WE.miss rfl ?_ | refine WE.out ?_ | refine WC.condT rfl ?_ | refine WC.condF rfl ?_ | refine WC.ret ?_ | refine WE.passRet ?_ | refine WE.outRet ?_ | refine WL.wanted rfl rfl rfl ?_ | refine WL.unwanted rfl rfl rfl rfl ?_ | refine WL.unwantedU rfl rfl rfl rfl ?_ | refine WL.unwanted0 rfl rfl rfl ?_
  try refine WL.wanted rfl rfl rfl ?_
  apply WL.callA ([wiresH wb [⟨1, 5, [], []⟩]])
  · exact rfl
  · exact rfl
  · exact fun w => Try.call14 _ w
  · (focus ((repeat constructor); done))
  · exact fun w1 S1 hS1 hs1 ho1 => pass_spec wb [⟨1, 5, [], []⟩] (.slice (some ⟨k0, 0, none⟩) 2 2) (telsOf 1 [[97], [98]]) w1 S1 hS1 ((ho1 (.blk k0 #[i64 1, str [97], i64 1, str [98]] 34) _ (by repeat constructor)).blkRow rfl (fun k u h => by simpa [telsOf, telC] using h) (by decide)) (okx_one (by decide)) (by decide) (fun t h => by simp [telsOf] at h; rcases h with rfl | rfl <;> decide)
  rintro _ _ rfl
  first | refine WL.app4 ?_ | refine WL.app3 ?_ | refine WL.app2 ?_ | refine WL.app1 ?_ | refine WL.app0 ?_ | skip
  rename_i v1
  rw [show passF [⟨1, 5, [], []⟩] (telsOf 1 [[97], [98]]) = ([⟨1, 5, [], [[97], [98]]⟩], []) from pass1 ⟨1, 5, [], []⟩ [[97], [98]]]
  dsimp only
  repeat first
    | (apply WL.q; exact rfl; exact rfl; exact rfl; (first | (apply EvW.move; exact rfl) | (apply EvW.assign; exact rfl) | (apply EvW.fieldAddr0; exact rfl; exact FldC.eq) | (apply EvW.fieldAddr; exact rfl; exact FldC.eq) | (apply EvW.load; exact rfl; exact ScalC.eq; (focus ((repeat constructor); done)); exact rfl) | (apply EvW.ldSeen; exact rfl; exact ScalC.eq; assumption; (first | exact rfl | assumption)) | (apply EvW.ldFld; exact rfl; exact ScalC.eq; assumption; exact fun _ => rfl; omega; exact rfl; exact inferInstance) | (apply EvW.lenL; exact rfl; exact UndC.eq) | (apply EvW.cmpT; exact rfl; exact rfl; exact rfl; omega) | (apply EvW.cmpF; exact rfl; exact rfl; exact rfl; omega) | (apply EvW.cmp; exact rfl; exact rfl; exact rfl) | (apply EvW.pickT; exact rfl; exact rfl) | (apply EvW.pickF; exact rfl; exact rfl) | (apply EvW.seqS; exact rfl; exact rfl) | (apply EvW.seq; exact rfl; exact rfl) | (apply EvW.build; exact PlC.eq; exact ZvC.eq; exact rfl; exact rfl; (focus ((repeat (first | exact Fills.nil | (apply Fills.cons; exact rfl; (first | assumption | exact rfl); exact rfl) | exact SetMany.nil | apply SetMany.cons | apply SetMany.succ)); done))) | (apply EvW.peqN; exact rfl; exact rfl; exact UndC.eq) | (apply EvW.ldStr; exact rfl; exact ScalC.eq; assumption; omega) | (apply EvW.ldStrOwn; exact rfl; exact ScalC.eq; (focus ((repeat constructor); done)); omega) | (apply EvW.lenRow; exact rfl; exact UndC.eq; assumption) | (apply EvW.lenOwn; exact rfl; exact UndC.eq; (focus ((repeat constructor); done))) | (apply EvW.idxRow; exact rfl; exact rfl; exact UndC.eq; exact SzC.eq; assumption; omega; omega) | (apply EvW.idxOwn; exact rfl; exact rfl; exact UndC.eq; exact SzC.eq; (focus ((repeat constructor); done)); omega; omega) | (apply EvW.fldRow; exact rfl; exact FldC.eq; assumption; omega) | (apply EvW.fldOwn; exact rfl; exact FldC.eq; (focus ((repeat constructor); done)); omega) | (apply EvW.ldFldOwn; exact rfl; exact ScalC.eq; (focus ((repeat constructor); done)); exact fun _ => rfl; omega; exact rfl; exact inferInstance)))
    | refine WC.seq ?_ | refine WC.region ?_ | refine WL.nil ?_ | refine WE.next ?_ | refine WC.skip ?_ | refine WC.exit ?_ | refine WE.pass ?_ | refine WE.hit ?_ | refine WE.miss rfl ?_ | refine WE.out ?_ | refine WC.condT rfl ?_ | refine WC.condF rfl ?_ | refine WC.ret ?_ | refine WE.passRet ?_ | refine WE.outRet ?_ | refine WL.wanted rfl rfl rfl ?_ | refine WL.unwanted rfl rfl rfl rfl ?_ | refine WL.unwantedU rfl rfl rfl rfl ?_ | refine WL.unwanted0 rfl rfl rfl ?_
  try refine WL.wanted rfl rfl rfl ?_
  apply WL.callA ([])
  · exact rfl
  · exact rfl
  · exact fun w => Try.call17 _ w
  · (focus ((repeat constructor); done))
  · exact fun w1 S1 hS1 hs1 ho1 => under_spec wb [⟨1, 5, [], [[97], [98]]⟩] w1 S1 hS1 (ho1 (wiresH wb [⟨1, 5, [], [[97], [98]]⟩]) _ (by repeat constructor)) (by decide) (by decide)
  rintro _ _ ⟨rfl, rfl⟩
  first | refine WL.app4 ?_ | refine WL.app3 ?_ | refine WL.app2 ?_ | refine WL.app1 ?_ | refine WL.app0 ?_ | skip
  rw [show (underF [⟨1, 5, [], [[97], [98]]⟩] : Int) = 2 from rfl]
  repeat first
    | (apply WL.q; exact rfl; exact rfl; exact rfl; (first | (apply EvW.move; exact rfl) | (apply EvW.assign; exact rfl) | (apply EvW.fieldAddr0; exact rfl; exact FldC.eq) | (apply EvW.fieldAddr; exact rfl; exact FldC.eq) | (apply EvW.load; exact rfl; exact ScalC.eq; (focus ((repeat constructor); done)); exact rfl) | (apply EvW.ldSeen; exact rfl; exact ScalC.eq; assumption; (first | exact rfl | assumption)) | (apply EvW.ldFld; exact rfl; exact ScalC.eq; assumption; exact fun _ => rfl; omega; exact rfl; exact inferInstance) | (apply EvW.lenL; exact rfl; exact UndC.eq) | (apply EvW.cmpT; exact rfl; exact rfl; exact rfl; omega) | (apply EvW.cmpF; exact rfl; exact rfl; exact rfl; omega) | (apply EvW.cmp; exact rfl; exact rfl; exact rfl) | (apply EvW.pickT; exact rfl; exact rfl) | (apply EvW.pickF; exact rfl; exact rfl) | (apply EvW.seqS; exact rfl; exact rfl) | (apply EvW.seq; exact rfl; exact rfl) | (apply EvW.build; exact PlC.eq; exact ZvC.eq; exact rfl; exact rfl; (focus ((repeat (first | exact Fills.nil | (apply Fills.cons; exact rfl; (first | assumption | exact rfl); exact rfl) | exact SetMany.nil | apply SetMany.cons | apply SetMany.succ)); done))) | (apply EvW.peqN; exact rfl; exact rfl; exact UndC.eq) | (apply EvW.ldStr; exact rfl; exact ScalC.eq; assumption; omega) | (apply EvW.ldStrOwn; exact rfl; exact ScalC.eq; (focus ((repeat constructor); done)); omega) | (apply EvW.lenRow; exact rfl; exact UndC.eq; assumption) | (apply EvW.lenOwn; exact rfl; exact UndC.eq; (focus ((repeat constructor); done))) | (apply EvW.idxRow; exact rfl; exact rfl; exact UndC.eq; exact SzC.eq; assumption; omega; omega) | (apply EvW.idxOwn; exact rfl; exact rfl; exact UndC.eq; exact SzC.eq; (focus ((repeat constructor); done)); omega; omega) | (apply EvW.fldRow; exact rfl; exact FldC.eq; assumption; omega) | (apply EvW.fldOwn; exact rfl; exact FldC.eq; (focus ((repeat constructor); done)); omega) | (apply EvW.ldFldOwn; exact rfl; exact ScalC.eq; (focus ((repeat constructor); done)); exact fun _ => rfl; omega; exact rfl; exact inferInstance)))
    | refine WC.seq ?_ | refine WC.region ?_ | refine WL.nil ?_ | refine WE.next ?_ | refine WC.skip ?_ | refine WC.exit ?_ | refine WE.pass ?_ | refine WE.hit ?_ | refine WE.miss rfl ?_ | refine WE.out ?_ | refine WC.condT rfl ?_ | refine WC.condF rfl ?_ | refine WC.ret ?_ | refine WE.passRet ?_ | refine WE.outRet ?_ | refine WL.wanted rfl rfl rfl ?_ | refine WL.unwanted rfl rfl rfl rfl ?_ | refine WL.unwantedU rfl rfl rfl rfl ?_ | refine WL.unwanted0 rfl rfl rfl ?_
  try refine WL.wanted rfl rfl rfl ?_
  apply WL.callA ([wiresH wb [⟨1, 5, [], [[97], [98]]⟩]])
  · exact rfl
  · exact rfl
  · exact fun w => Try.call12 _ w
  · (focus ((repeat constructor); done))
  · exact fun w1 S1 hS1 hs1 ho1 => set_spec wb [⟨1, 5, [], [[97], [98]]⟩] 1 0 w1 S1 hS1
  rintro _ _ ⟨rfl, rfl⟩
  first | refine WL.app4 ?_ | refine WL.app3 ?_ | refine WL.app2 ?_ | refine WL.app1 ?_ | refine WL.app0 ?_ | skip
  rw [if_neg (by decide), show setF [⟨1, 5, [], [[97], [98]]⟩] 1 0 = [⟨1, 0, [], [[97], [98]]⟩] from set_one ⟨1, 5, [], [[97], [98]]⟩ 0 (by decide)]
  repeat first
    | (apply WL.q; exact rfl; exact rfl; exact rfl; (first | (apply EvW.move; exact rfl) | (apply EvW.assign; exact rfl) | (apply EvW.fieldAddr0; exact rfl; exact FldC.eq) | (apply EvW.fieldAddr; exact rfl; exact FldC.eq) | (apply EvW.load; exact rfl; exact ScalC.eq; (focus ((repeat constructor); done)); exact rfl) | (apply EvW.ldSeen; exact rfl; exact ScalC.eq; assumption; (first | exact rfl | assumption)) | (apply EvW.ldFld; exact rfl; exact ScalC.eq; assumption; exact fun _ => rfl; omega; exact rfl; exact inferInstance) | (apply EvW.lenL; exact rfl; exact UndC.eq) | (apply EvW.cmpT; exact rfl; exact rfl; exact rfl; omega) | (apply EvW.cmpF; exact rfl; exact rfl; exact rfl; omega) | (apply EvW.cmp; exact rfl; exact rfl; exact rfl) | (apply EvW.pickT; exact rfl; exact rfl) | (apply EvW.pickF; exact rfl; exact rfl) | (apply EvW.seqS; exact rfl; exact rfl) | (apply EvW.seq; exact rfl; exact rfl) | (apply EvW.build; exact PlC.eq; exact ZvC.eq; exact rfl; exact rfl; (focus ((repeat (first | exact Fills.nil | (apply Fills.cons; exact rfl; (first | assumption | exact rfl); exact rfl) | exact SetMany.nil | apply SetMany.cons | apply SetMany.succ)); done))) | (apply EvW.peqN; exact rfl; exact rfl; exact UndC.eq) | (apply EvW.ldStr; exact rfl; exact ScalC.eq; assumption; omega) | (apply EvW.ldStrOwn; exact rfl; exact ScalC.eq; (focus ((repeat constructor); done)); omega) | (apply EvW.lenRow; exact rfl; exact UndC.eq; assumption) | (apply EvW.lenOwn; exact rfl; exact UndC.eq; (focus ((repeat constructor); done))) | (apply EvW.idxRow; exact rfl; exact rfl; exact UndC.eq; exact SzC.eq; assumption; omega; omega) | (apply EvW.idxOwn; exact rfl; exact rfl; exact UndC.eq; exact SzC.eq; (focus ((repeat constructor); done)); omega; omega) | (apply EvW.fldRow; exact rfl; exact FldC.eq; assumption; omega) | (apply EvW.fldOwn; exact rfl; exact FldC.eq; (focus ((repeat constructor); done)); omega) | (apply EvW.ldFldOwn; exact rfl; exact ScalC.eq; (focus ((repeat constructor); done)); exact fun _ => rfl; omega; exact rfl; exact inferInstance)))
    | refine WC.seq ?_ | refine WC.region ?_ | refine WL.nil ?_ | refine WE.next ?_ | refine WC.skip ?_ | refine WC.exit ?_ | refine WE.pass ?_ | refine WE.hit ?_ | refine WE.miss rfl ?_ | refine WE.out ?_ | refine WC.condT rfl ?_ | refine WC.condF rfl ?_ | refine WC.ret ?_ | refine WE.passRet ?_ | refine WE.outRet ?_ | refine WL.wanted rfl rfl rfl ?_ | refine WL.unwanted rfl rfl rfl rfl ?_ | refine WL.unwantedU rfl rfl rfl rfl ?_ | refine WL.unwanted0 rfl rfl rfl ?_
  try refine WL.wanted rfl rfl rfl ?_
  (apply WL.buildSlice; exact rfl; exact UndC.eq; exact SzC.eq; exact ZvC.eq; exact rfl; exact rfl; exact rfl; ((focus ((repeat (first | exact Flat.nil | (apply Flat.one; (first | exact rfl | assumption)) | (apply Flat.cons; exact rfl; exact rfl))); done))); exact rfl; exact rfl; intro k1)
  repeat first
    | (apply WL.q; exact rfl; exact rfl; exact rfl; (first | (apply EvW.move; exact rfl) | (apply EvW.assign; exact rfl) | (apply EvW.fieldAddr0; exact rfl; exact FldC.eq) | (apply EvW.fieldAddr; exact rfl; exact FldC.eq) | (apply EvW.load; exact rfl; exact ScalC.eq; (focus ((repeat constructor); done)); exact rfl) | (apply EvW.ldSeen; exact rfl; exact ScalC.eq; assumption; (first | exact rfl | assumption)) | (apply EvW.ldFld; exact rfl; exact ScalC.eq; assumption; exact fun _ => rfl; omega; exact rfl; exact inferInstance) | (apply EvW.lenL; exact rfl; exact UndC.eq) | (apply EvW.cmpT; exact rfl; exact rfl; exact rfl; omega) | (apply EvW.cmpF; exact rfl; exact rfl; exact rfl; omega) | (apply EvW.cmp; exact rfl; exact rfl; exact rfl) | (apply EvW.pickT; exact rfl; exact rfl) | (apply EvW.pickF; exact rfl; exact rfl) | (apply EvW.seqS; exact rfl; exact rfl) | (apply EvW.seq; exact rfl; exact rfl) | (apply EvW.build; exact PlC.eq; exact ZvC.eq; exact rfl; exact rfl; (focus ((repeat (first | exact Fills.nil | (apply Fills.cons; exact rfl; (first | assumption | exact rfl); exact rfl) | exact SetMany.nil | apply SetMany.cons | apply SetMany.succ)); done))) | (apply EvW.peqN; exact rfl; exact rfl; exact UndC.eq) | (apply EvW.ldStr; exact rfl; exact ScalC.eq; assumption; omega) | (apply EvW.ldStrOwn; exact rfl; exact ScalC.eq; (focus ((repeat constructor); done)); omega) | (apply EvW.lenRow; exact rfl; exact UndC.eq; assumption) | (apply EvW.lenOwn; exact rfl; exact UndC.eq; (focus ((repeat constructor); done))) | (apply EvW.idxRow; exact rfl; exact rfl; exact UndC.eq; exact SzC.eq; assumption; omega; omega) | (apply EvW.idxOwn; exact rfl; exact rfl; exact UndC.eq; exact SzC.eq; (focus ((repeat constructor); done)); omega; omega) | (apply EvW.fldRow; exact rfl; exact FldC.eq; assumption; omega) | (apply EvW.fldOwn; exact rfl; exact FldC.eq; (focus ((repeat constructor); done)); omega) | (apply EvW.ldFldOwn; exact rfl; exact ScalC.eq; (focus ((repeat constructor); done)); exact fun _ => rfl; omega; exact rfl; exact inferInstance)))
    | refine WC.seq ?_ | refine WC.region ?_ | refine WL.nil ?_ | refine WE.next ?_ | refine WC.skip ?_ | refine WC.exit ?_ | refine WE.pass ?_ | refine WE.hit ?_ | refine WE.miss rfl ?_ | refine WE.out ?_ | refine WC.condT rfl ?_ | refine WC.condF rfl ?_ | refine WC.ret ?_ | refine WE.passRet ?_ | refine WE.outRet ?_ | refine WL.wanted rfl rfl rfl ?_ | refine WL.unwanted rfl rfl rfl rfl ?_ | refine WL.unwantedU rfl rfl rfl rfl ?_ | refine WL.unwanted0 rfl rfl rfl ?_
  try refine WL.wanted rfl rfl rfl ?_
  apply WL.callA ([wiresH wb [⟨1, 0, [], [[97], [98]]⟩]])
  · exact rfl
  · exact rfl
  · exact fun w => Try.call14 _ w
  · (focus ((repeat constructor); done))
  · exact fun w1 S1 hS1 hs1 ho1 => pass_spec wb [⟨1, 0, [], [[97], [98]]⟩] (.slice (some ⟨k1, 0, none⟩) 1 1) (telsOf 1 [[99]]) w1 S1 hS1 ((ho1 (.blk k1 #[i64 1, str [99]] 34) _ (by repeat constructor)).blkRow rfl (fun k u h => by simpa [telsOf, telC] using h) (by decide)) (okx_one (by decide)) (by decide) (fun t h => by simp [telsOf] at h; subst h; decide)
  rintro _ _ rfl
  first | refine WL.app4 ?_ | refine WL.app3 ?_ | refine WL.app2 ?_ | refine WL.app1 ?_ | refine WL.app0 ?_ | skip
  rename_i v2
  rw [show passF [⟨1, 0, [], [[97], [98]]⟩] (telsOf 1 [[99]]) = ([⟨1, 0, [], []⟩], telsOf 1 [[98], [97], [99]]) from pass1 ⟨1, 0, [], [[97], [98]]⟩ [[99]]]
  dsimp only
  obtain ⟨L, hL⟩ : ∃ L, telsOf 1 [[98], [97], [99]] = L := ⟨_, rfl⟩
  have hl3 : L.length = 3 := by rw [← hL]; rfl
  have hg0 : (L.getD ((0 : Int)).toNat default).2 = [98] := by rw [← hL]; rfl
  have hg2 : (L.getD ((2 : Int)).toNat default).2 = [99] := by rw [← hL]; rfl
  rw [hL]
  repeat first
    | (apply WL.q; exact rfl; exact rfl; exact rfl; (first | (apply EvW.move; exact rfl) | (apply EvW.assign; exact rfl) | (apply EvW.fieldAddr0; exact rfl; exact FldC.eq) | (apply EvW.fieldAddr; exact rfl; exact FldC.eq) | (apply EvW.load; exact rfl; exact ScalC.eq; (focus ((repeat constructor); done)); exact rfl) | (apply EvW.ldSeen; exact rfl; exact ScalC.eq; assumption; (first | exact rfl | assumption)) | (apply EvW.ldFld; exact rfl; exact ScalC.eq; assumption; exact fun _ => rfl; omega; exact rfl; exact inferInstance) | (apply EvW.lenL; exact rfl; exact UndC.eq) | (apply EvW.cmpT; exact rfl; exact rfl; exact rfl; omega) | (apply EvW.cmpF; exact rfl; exact rfl; exact rfl; omega) | (apply EvW.cmp; exact rfl; exact rfl; exact rfl) | (apply EvW.pickT; exact rfl; exact rfl) | (apply EvW.pickF; exact rfl; exact rfl) | (apply EvW.seqS; exact rfl; exact rfl) | (apply EvW.seq; exact rfl; exact rfl) | (apply EvW.build; exact PlC.eq; exact ZvC.eq; exact rfl; exact rfl; (focus ((repeat (first | exact Fills.nil | (apply Fills.cons; exact rfl; (first | assumption | exact rfl); exact rfl) | exact SetMany.nil | apply SetMany.cons | apply SetMany.succ)); done))) | (apply EvW.peqN; exact rfl; exact rfl; exact UndC.eq) | (apply EvW.ldStr; exact rfl; exact ScalC.eq; assumption; omega) | (apply EvW.ldStrOwn; exact rfl; exact ScalC.eq; (focus ((repeat constructor); done)); omega) | (apply EvW.lenRow; exact rfl; exact UndC.eq; assumption) | (apply EvW.lenOwn; exact rfl; exact UndC.eq; (focus ((repeat constructor); done))) | (apply EvW.idxRow; exact rfl; exact rfl; exact UndC.eq; exact SzC.eq; assumption; omega; omega) | (apply EvW.idxOwn; exact rfl; exact rfl; exact UndC.eq; exact SzC.eq; (focus ((repeat constructor); done)); omega; omega) | (apply EvW.fldRow; exact rfl; exact FldC.eq; assumption; omega) | (apply EvW.fldOwn; exact rfl; exact FldC.eq; (focus ((repeat constructor); done)); omega) | (apply EvW.ldFldOwn; exact rfl; exact ScalC.eq; (focus ((repeat constructor); done)); exact fun _ => rfl; omega; exact rfl; exact inferInstance)))
    | refine WC.seq ?_ | refine WC.region ?_ | refine WL.nil ?_ | refine WE.next ?_ | refine WC.skip ?_ | refine WC.exit ?_ | refine WE.pass ?_ | refine WE.hit ?_ | refine WE.miss rfl ?_ | refine WE.out ?_ | refine WC.condT rfl ?_ | refine WC.condF rfl ?_ | refine WC.ret ?_ | refine WE.passRet ?_ | refine WE.outRet ?_ | refine WL.wanted rfl rfl rfl ?_ | refine WL.unwanted rfl rfl rfl rfl ?_ | refine WL.unwantedU rfl rfl rfl rfl ?_ | refine WL.unwanted0 rfl rfl rfl ?_
  rw [hg0, decide_eq_true (rfl : ([98] : Txt) = [98])]
  repeat first
    | (apply WL.q; exact rfl; exact rfl; exact rfl; (first | (apply EvW.move; exact rfl) | (apply EvW.assign; exact rfl) | (apply EvW.fieldAddr0; exact rfl; exact FldC.eq) | (apply EvW.fieldAddr; exact rfl; exact FldC.eq) | (apply EvW.load; exact rfl; exact ScalC.eq; (focus ((repeat constructor); done)); exact rfl) | (apply EvW.ldSeen; exact rfl; exact ScalC.eq; assumption; (first | exact rfl | assumption)) | (apply EvW.ldFld; exact rfl; exact ScalC.eq; assumption; exact fun _ => rfl; omega; exact rfl; exact inferInstance) | (apply EvW.lenL; exact rfl; exact UndC.eq) | (apply EvW.cmpT; exact rfl; exact rfl; exact rfl; omega) | (apply EvW.cmpF; exact rfl; exact rfl; exact rfl; omega) | (apply EvW.cmp; exact rfl; exact rfl; exact rfl) | (apply EvW.pickT; exact rfl; exact rfl) | (apply EvW.pickF; exact rfl; exact rfl) | (apply EvW.seqS; exact rfl; exact rfl) | (apply EvW.seq; exact rfl; exact rfl) | (apply EvW.build; exact PlC.eq; exact ZvC.eq; exact rfl; exact rfl; (focus ((repeat (first | exact Fills.nil | (apply Fills.cons; exact rfl; (first | assumption | exact rfl); exact rfl) | exact SetMany.nil | apply SetMany.cons | apply SetMany.succ)); done))) | (apply EvW.peqN; exact rfl; exact rfl; exact UndC.eq) | (apply EvW.ldStr; exact rfl; exact ScalC.eq; assumption; omega) | (apply EvW.ldStrOwn; exact rfl; exact ScalC.eq; (focus ((repeat constructor); done)); omega) | (apply EvW.lenRow; exact rfl; exact UndC.eq; assumption) | (apply EvW.lenOwn; exact rfl; exact UndC.eq; (focus ((repeat constructor); done))) | (apply EvW.idxRow; exact rfl; exact rfl; exact UndC.eq; exact SzC.eq; assumption; omega; omega) | (apply EvW.idxOwn; exact rfl; exact rfl; exact UndC.eq; exact SzC.eq; (focus ((repeat constructor); done)); omega; omega) | (apply EvW.fldRow; exact rfl; exact FldC.eq; assumption; omega) | (apply EvW.fldOwn; exact rfl; exact FldC.eq; (focus ((repeat constructor); done)); omega) | (apply EvW.ldFldOwn; exact rfl; exact ScalC.eq; (focus ((repeat constructor); done)); exact fun _ => rfl; omega; exact rfl; exact inferInstance)))
    | refine WC.seq ?_ | refine WC.region ?_ | refine WL.nil ?_ | refine WE.next ?_ | refine WC.skip ?_ | refine WC.exit ?_ | refine WE.pass ?_ | refine WE.hit ?_ | refine WE.miss rfl ?_ | refine WE.out ?_ | refine WC.condT rfl ?_ | refine WC.condF rfl ?_ | refine WC.ret ?_ | refine WE.passRet ?_ | refine WE.outRet ?_ | refine WL.wanted rfl rfl rfl ?_ | refine WL.unwanted rfl rfl rfl rfl ?_ | refine WL.unwantedU rfl rfl rfl rfl ?_ | refine WL.unwanted0 rfl rfl rfl ?_
  rw [hg2, decide_eq_true (rfl : ([99] : Txt) = [99])]
  repeat first
    | (apply WL.q; exact rfl; exact rfl; exact rfl; (first | (apply EvW.move; exact rfl) | (apply EvW.assign; exact rfl) | (apply EvW.fieldAddr0; exact rfl; exact FldC.eq) | (apply EvW.fieldAddr; exact rfl; exact FldC.eq) | (apply EvW.load; exact rfl; exact ScalC.eq; (focus ((repeat constructor); done)); exact rfl) | (apply EvW.ldSeen; exact rfl; exact ScalC.eq; assumption; (first | exact rfl | assumption)) | (apply EvW.ldFld; exact rfl; exact ScalC.eq; assumption; exact fun _ => rfl; omega; exact rfl; exact inferInstance) | (apply EvW.lenL; exact rfl; exact UndC.eq) | (apply EvW.cmpT; exact rfl; exact rfl; exact rfl; omega) | (apply EvW.cmpF; exact rfl; exact rfl; exact rfl; omega) | (apply EvW.cmp; exact rfl; exact rfl; exact rfl) | (apply EvW.pickT; exact rfl; exact rfl) | (apply EvW.pickF; exact rfl; exact rfl) | (apply EvW.seqS; exact rfl; exact rfl) | (apply EvW.seq; exact rfl; exact rfl) | (apply EvW.build; exact PlC.eq; exact ZvC.eq; exact rfl; exact rfl; (focus ((repeat (first | exact Fills.nil | (apply Fills.cons; exact rfl; (first | assumption | exact rfl); exact rfl) | exact SetMany.nil | apply SetMany.cons | apply SetMany.succ)); done))) | (apply EvW.peqN; exact rfl; exact rfl; exact UndC.eq) | (apply EvW.ldStr; exact rfl; exact ScalC.eq; assumption; omega) | (apply EvW.ldStrOwn; exact rfl; exact ScalC.eq; (focus ((repeat constructor); done)); omega) | (apply EvW.lenRow; exact rfl; exact UndC.eq; assumption) | (apply EvW.lenOwn; exact rfl; exact UndC.eq; (focus ((repeat constructor); done))) | (apply EvW.idxRow; exact rfl; exact rfl; exact UndC.eq; exact SzC.eq; assumption; omega; omega) | (apply EvW.idxOwn; exact rfl; exact rfl; exact UndC.eq; exact SzC.eq; (focus ((repeat constructor); done)); omega; omega) | (apply EvW.fldRow; exact rfl; exact FldC.eq; assumption; omega) | (apply EvW.fldOwn; exact rfl; exact FldC.eq; (focus ((repeat constructor); done)); omega) | (apply EvW.ldFldOwn; exact rfl; exact ScalC.eq; (focus ((repeat constructor); done)); exact fun _ => rfl; omega; exact rfl; exact inferInstance)))
    | refine WC.seq ?_ | refine WC.region ?_ | refine WL.nil ?_ | refine WE.next ?_ | refine WC.skip ?_ | refine WC.exit ?_ | refine WE.pass ?_ | refine WE.hit ?_ | refine WE.miss rfl ?_ | refine WE.out ?_ | refine WC.condT rfl ?_ | refine WC.condF rfl ?_ | refine WC.ret ?_ | refine WE.passRet ?_ | refine WE.outRet ?_ | refine WL.wanted rfl rfl rfl ?_ | refine WL.unwanted rfl rfl rfl rfl ?_ | refine WL.unwantedU rfl rfl rfl rfl ?_ | refine WL.unwanted0 rfl rfl rfl ?_
  try refine WL.wanted rfl rfl rfl ?_
  apply WL.callA ([])
  · exact rfl
  · exact rfl
  · exact fun w => Try.call17 _ w
  · (focus ((repeat constructor); done))
  · exact fun w1 S1 hS1 hs1 ho1 => under_spec wb [⟨1, 0, [], []⟩] w1 S1 hS1 (ho1 (wiresH wb [⟨1, 0, [], []⟩]) _ (by repeat constructor)) (by decide) (by decide)
  rintro _ _ ⟨rfl, rfl⟩
  first | refine WL.app4 ?_ | refine WL.app3 ?_ | refine WL.app2 ?_ | refine WL.app1 ?_ | refine WL.app0 ?_ | skip
  rw [show (underF [⟨1, 0, [], []⟩] : Int) = 0 from rfl]
  repeat first
    | (apply WL.q; exact rfl; exact rfl; exact rfl; (first | (apply EvW.move; exact rfl) | (apply EvW.assign; exact rfl) | (apply EvW.fieldAddr0; exact rfl; exact FldC.eq) | (apply EvW.fieldAddr; exact rfl; exact FldC.eq) | (apply EvW.load; exact rfl; exact ScalC.eq; (focus ((repeat constructor); done)); exact rfl) | (apply EvW.ldSeen; exact rfl; exact ScalC.eq; assumption; (first | exact rfl | assumption)) | (apply EvW.ldFld; exact rfl; exact ScalC.eq; assumption; exact fun _ => rfl; omega; exact rfl; exact inferInstance) | (apply EvW.lenL; exact rfl; exact UndC.eq) | (apply EvW.cmpT; exact rfl; exact rfl; exact rfl; omega) | (apply EvW.cmpF; exact rfl; exact rfl; exact rfl; omega) | (apply EvW.cmp; exact rfl; exact rfl; exact rfl) | (apply EvW.pickT; exact rfl; exact rfl) | (apply EvW.pickF; exact rfl; exact rfl) | (apply EvW.seqS; exact rfl; exact rfl) | (apply EvW.seq; exact rfl; exact rfl) | (apply EvW.build; exact PlC.eq; exact ZvC.eq; exact rfl; exact rfl; (focus ((repeat (first | exact Fills.nil | (apply Fills.cons; exact rfl; (first | assumption | exact rfl); exact rfl) | exact SetMany.nil | apply SetMany.cons | apply SetMany.succ)); done))) | (apply EvW.peqN; exact rfl; exact rfl; exact UndC.eq) | (apply EvW.ldStr; exact rfl; exact ScalC.eq; assumption; omega) | (apply EvW.ldStrOwn; exact rfl; exact ScalC.eq; (focus ((repeat constructor); done)); omega) | (apply EvW.lenRow; exact rfl; exact UndC.eq; assumption) | (apply EvW.lenOwn; exact rfl; exact UndC.eq; (focus ((repeat constructor); done))) | (apply EvW.idxRow; exact rfl; exact rfl; exact UndC.eq; exact SzC.eq; assumption; omega; omega) | (apply EvW.idxOwn; exact rfl; exact rfl; exact UndC.eq; exact SzC.eq; (focus ((repeat constructor); done)); omega; omega) | (apply EvW.fldRow; exact rfl; exact FldC.eq; assumption; omega) | (apply EvW.fldOwn; exact rfl; exact FldC.eq; (focus ((repeat constructor); done)); omega) | (apply EvW.ldFldOwn; exact rfl; exact ScalC.eq; (focus ((repeat constructor); done)); exact fun _ => rfl; omega; exact rfl; exact inferInstance)))
    | refine WC.seq ?_ | refine WC.region ?_ | refine WL.nil ?_ | refine WE.next ?_ | refine WC.skip ?_ | refine WC.exit ?_ | refine WE.pass ?_ | refine WE.hit ?_ | refine WE.miss rfl ?_ | refine WE.out ?_ | refine WC.condT rfl ?_ | refine WC.condF rfl ?_ | refine WC.ret ?_ | refine WE.passRet ?_ | refine WE.outRet ?_ | refine WL.wanted rfl rfl rfl ?_ | refine WL.unwanted rfl rfl rfl rfl ?_ | refine WL.unwantedU rfl rfl rfl rfl ?_ | refine WL.unwanted0 rfl rfl rfl ?_
  refine WE.keep (xs := []) (by repeat constructor) ?_
  refine WE.ret1 rfl rfl ?_
  exact ⟨rfl, rfl⟩
end Go.Proofs.Ytoaajdmacngnjaa
namespace Go.Proofs.Ytoaajdmacngnjaa
open Go.RowKit Go.BK
theorem telsOf_at (p : Int) (ts : List Txt) (i : Nat) (h : i < ts.length) : (telsOf p ts).getD i default = (p, ts.getD i []) := by
  unfold telsOf
  rw [List.getD_eq_getElem?_getD, List.getElem?_map, List.getElem?_eq_getElem h, List.getD_eq_getElem?_getD, List.getElem?_eq_getElem h]; rfl
end Go.Proofs.Ytoaajdmacngnjaa
namespace Go.Proofs.Ytoaajdmacngnjaa
open Go.ChangeShapes Go.WideShapes Go.ChangeAt Go.RowKit Go.BK
theorem txts_small : ∀ {xs : List (List UInt8)} {B : Nat}, (xs.map fun s => s.length + 1).sum ≤ B → xs.length ≤ B ∧ ∀ s ∈ xs, s.length ≤ B := by
  intro xs
  induction xs with
  | nil => intro B _; exact ⟨by simp, fun i h => by cases h⟩
  | cons x r ih =>
    intro B h
    simp only [List.map_cons, List.sum_cons] at h
    obtain ⟨h2, h3⟩ := ih (B := B - (x.length + 1)) (by omega)
    refine ⟨by simp only [List.length_cons]; omega, fun i hi => ?_⟩
    rcases List.mem_cons.1 hi with rfl | hi
    · omega
    · have := h3 i hi; omega
end Go.Proofs.Ytoaajdmacngnjaa
namespace Go.Proofs.Ytoaajdmacngnjaa
open Go.RowKit Go.BK
theorem fold_due (p m : Int) (hm : m = 3 ∨ m = 2) : ∀ (ts d h : List Txt), ts.foldl inW (⟨p, m, d, h⟩ : Wr) = ⟨p, m, d ++ ts, h⟩
  | [], d, h => by rw [List.append_nil]; rfl
  | s :: ts, d, h => by
    rw [List.foldl_cons, show inW (⟨p, m, d, h⟩ : Wr) s = ⟨p, m, d ++ [s], h⟩ from by unfold inW; rw [if_pos hm], fold_due p m hm ts, List.append_assoc]; rfl
theorem flat_self : ∀ ts : List Txt, ts.flatMap (fun s => [s]) = ts
  | [] => rfl
  | s :: ts => by rw [List.flatMap_cons, flat_self ts]; rfl
theorem flat_none : ∀ ts : List Txt, ts.flatMap (fun _ => ([] : List Txt)) = []
  | [] => rfl
  | s :: ts => by rw [List.flatMap_cons, flat_none ts]; rfl
theorem pass_late3 (p : Int) (la now : List Txt) : passF [(⟨p, 3, la, []⟩ : Wr)] (telsOf p now) = ([(⟨p, 3, now, []⟩ : Wr)], telsOf p (la ++ now)) := by
  have h := pass1 (⟨p, 3, la, []⟩ : Wr) now
  have e1 : inA (⟨p, 3, la, []⟩ : Wr) now = (⟨p, 3, now, []⟩ : Wr) := by
    unfold inA
    rw [show readyW (⟨p, 3, la, []⟩ : Wr) = (⟨p, 3, [], []⟩ : Wr) from rfl, fold_due p 3 (.inl rfl)]; rfl
  have e2 : now.flatMap (inO (⟨p, 3, la, []⟩ : Wr)) = now := by
    rw [show inO (⟨p, 3, la, []⟩ : Wr) = fun s => [s] from rfl]; exact flat_self now
  rw [e1, e2, show readyO (⟨p, 3, la, []⟩ : Wr) = la ++ [] from rfl, List.append_nil] at h
  exact h
theorem pass_late2 (p : Int) (la now : List Txt) : passF [(⟨p, 2, la, []⟩ : Wr)] (telsOf p now) = ([(⟨p, 2, now, []⟩ : Wr)], telsOf p la) := by
  have h := pass1 (⟨p, 2, la, []⟩ : Wr) now
  have e1 : inA (⟨p, 2, la, []⟩ : Wr) now = (⟨p, 2, now, []⟩ : Wr) := by
    unfold inA
    rw [show readyW (⟨p, 2, la, []⟩ : Wr) = (⟨p, 2, [], []⟩ : Wr) from rfl, fold_due p 2 (.inr rfl)]; rfl
  have e2 : now.flatMap (inO (⟨p, 2, la, []⟩ : Wr)) = [] := by
    rw [show inO (⟨p, 2, la, []⟩ : Wr) = fun _ => [] from rfl]; exact flat_none now
  rw [e1, e2, show readyO (⟨p, 2, la, []⟩ : Wr) = la ++ [] from rfl, List.append_nil, List.append_nil] at h
  exact h
theorem under_d (p m : Int) (d : List Txt) : (underF [(⟨p, m, d, []⟩ : Wr)] : Int) = d.length := by rw [under_one]; unfold wSize; simp
theorem under_d' (p m : Int) (d : List Txt) : underF [(⟨p, m, d, []⟩ : Wr)] = d.length := by rw [under_one]; unfold wSize; simp
theorem nodup_d (p m : Int) (d : List Txt) : (([(⟨p, m, d, []⟩ : Wr)] : List Wr).map (·.p)).Nodup := by simp
theorem telsOf_l (p : Int) (ts : List Txt) : (telsOf p ts).length = ts.length := List.length_map ..
theorem telsOf_stepL (p : Int) (ts : List Txt) (i : Nat) (h : i < ts.length) : (telsOf p (ts.take (i + 1))).length = (telsOf p (ts.take i)).length + 1 := by rw [telsOf_l, telsOf_l, List.length_take, List.length_take]; omega
theorem St.zero {w0 w : World} {S0 : BSet} {r : List HP} {k e : Nat} (h : St w0 S0 (.blk k ([] : List Value).toArray e :: r) w) : St w0 S0 (.own e 1 (.slice (some ⟨k, 0, none⟩) 0 0) 0 [] :: r) w :=
  h.mono fun S w hs => star_mono hs (fun S h => blk_own (sp := []) h rfl (Nat.le_refl _) rfl) fun _ h => h
structure Rows2 (rs : List (Value × List Txt)) (w : World) (S : BSet) : Prop where
  row : ∀ i, i < rs.length → Sees w S (.row 1 (rs.getD i default).1 (rs.getD i default).2.length ((rs.getD i default).2.map str))
  len : ∀ i, i < rs.length → (rs.getD i default).2.length ≤ 1048576
  txt : ∀ i, i < rs.length → ∀ s ∈ (rs.getD i default).2, s.length ≤ 140737488355328
set_option maxHeartbeats 8000000 in
set_option maxRecDepth 8000 in
theorem wiresLate_true (p : Int) (v : Value) (rs : List (Value × List Txt)) (w : World) (S : BSet) (hS : (sepL []).sat S w) (hp : (Lit.int .i64 p).wf = true) (hv : Sees w S (.row 1 v rs.length (rs.map (·.1)))) (hn : rs.length ≤ 1048576) (hr : Rows2 rs w S) :
    Tri Try.prog 8 #[i64 p, v, .bool true] w S fun u A => u = .bool true := by
  refine Tri.enter (l := [i64 p, v, .bool true]) Try.func8 rfl Try.ntmps8 rfl [(0, i64 p), (1, v), (2, .bool true)] (subA rfl) hS ?_
  repeat first
    | (apply WL.q; exact rfl; exact rfl; exact rfl; (first | (apply EvW.assign; exact rfl)))
    | refine WC.seq ?_ | refine WC.region ?_ | refine WL.nil ?_ | refine WE.next ?_
  try refine WL.wanted rfl rfl rfl ?_
  apply WL.callA ([])
  · exact rfl
  · exact rfl
  · exact fun w => Try.call9 _ w
  · (focus ((repeat constructor); done))
  · exact fun w1 S1 hS1 hs1 ho1 => lives20_spec w1 S1 hS1
  rintro _ _ ⟨rfl, rfl⟩
  first | refine WL.app4 ?_ | refine WL.app3 ?_ | refine WL.app2 ?_ | refine WL.app1 ?_ | refine WL.app0 ?_ | skip
  repeat first
    | (apply WL.q; exact rfl; exact rfl; exact rfl; (first | (apply EvW.notT; exact rfl)))
    | refine WC.seq ?_ | refine WC.region ?_ | refine WL.nil ?_ | refine WE.next ?_ | refine WC.skip ?_ | refine WC.condF rfl ?_
  try refine WL.wanted rfl rfl rfl ?_
  apply WL.callA ([])
  · exact rfl
  · exact rfl
  · exact fun w => Try.call10 _ w
  · (focus ((repeat constructor); done))
  · exact fun w1 S1 hS1 hs1 ho1 => wnew_spec w1 S1 hS1
  rintro _ _ ⟨wb, rfl, rfl⟩
  first | refine WL.app4 ?_ | refine WL.app3 ?_ | refine WL.app2 ?_ | refine WL.app1 ?_ | refine WL.app0 ?_ | skip
  repeat first
    | (apply WL.q; exact rfl; exact rfl; exact rfl; (first | (apply EvW.move; exact rfl) | (apply EvW.assign; exact rfl)))
    | refine WC.seq ?_ | refine WC.region ?_ | refine WL.nil ?_ | refine WE.next ?_ | refine WC.condT rfl ?_
  try refine WL.wanted rfl rfl rfl ?_
  apply WL.callA ([wiresH wb []])
  · exact rfl
  · exact rfl
  · exact fun w => Try.call12 _ w
  · (focus ((repeat constructor); done))
  · exact fun w1 S1 hS1 hs1 ho1 => set_spec wb [] p 3 w1 S1 hS1
  rintro _ _ ⟨rfl, rfl⟩
  first | refine WL.app4 ?_ | refine WL.app3 ?_ | refine WL.app2 ?_ | refine WL.app1 ?_ | refine WL.app0 ?_ | skip
  rw [if_neg (by decide), set_nil p 3 (by decide)]
  repeat first
    | (apply WL.q; exact rfl; exact rfl; exact rfl; (first | (apply EvW.assign; exact rfl) | (apply EvW.cmpF; exact rfl; exact rfl; exact rfl; omega)))
    | refine WC.seq ?_ | refine WC.region ?_ | refine WL.nil ?_ | refine WE.next ?_ | refine WC.block ?_ | refine WC.skip ?_ | refine WC.condF rfl ?_
  refine WC.loopK (σ := Nat × Value × List Txt) [0, 1, 2, 7] (fun s => [(9, s.2.1), (10, i64 s.1)]) (fun s => [wiresH wb [(⟨p, 3, s.2.2, []⟩ : Wr)]]) (fun s => s.1 ≤ rs.length + 1 ∧ Sees w S (.row 1 s.2.1 s.2.2.length (s.2.2.map str)) ∧ s.2.2.length ≤ 1048576 ∧ (∀ x ∈ s.2.2, x.length ≤ 140737488355328)) (fun s => rs.length + 1 - s.1) (0, (Value.slice none 0 0), []) (by (focus ((repeat (first | exact Pick.nil | (apply Pick.cons; exact rfl))); done))) (by (focus ((repeat (first | exact trivial | (refine ⟨rfl, ?_⟩))); done))) (fun _ h => h.keep (by repeat constructor)) ⟨Nat.zero_le _, Sees.nilRow, Nat.zero_le _, fun s h => by cases h⟩ (fun s hs => ?_)
  obtain ⟨i, lv, la⟩ := s
  simp only [List.cons_append, List.nil_append] at hs ⊢
  obtain ⟨hi0, hla, hlal, hlat⟩ := hs
  by_cases hle : (i : Int) ≤ rs.length
  rotate_left
  · repeat first
      | (apply WL.q; exact rfl; exact rfl; exact rfl; (first | (apply EvW.move; exact rfl) | (apply EvW.assign; exact rfl) | (apply EvW.cmpF; exact rfl; exact rfl; exact rfl; omega) | (apply EvW.lenRow; exact rfl; exact UndC.eq; assumption)))
      | refine WC.seq ?_ | refine WC.region ?_ | refine WL.nil ?_ | refine WE.next ?_ | refine WC.exit ?_ | refine WE.pass ?_ | refine WE.hit ?_ | refine WC.condF rfl ?_ | refine WC.ret ?_
    refine WE.keep (xs := []) (by repeat constructor) ?_
    refine WE.ret1 rfl rfl ?_
    rfl
  by_cases hlt : (i : Int) < rs.length
  · have hi : i < rs.length := by omega
    have hrow := hr.row i hi
    have hlen := hr.len i hi
    have htxt := hr.txt i hi
    obtain ⟨nv, hnv⟩ : ∃ nv, (rs.getD i default).1 = nv := ⟨_, rfl⟩
    obtain ⟨now, hno⟩ : ∃ now, (rs.getD i default).2 = now := ⟨_, rfl⟩
    rw [hnv, hno] at hrow
    rw [hno] at hlen htxt
    have hnow : Sees w S (.row 1 nv now.length (now.map str)) := hrow
    have hnl : now.length ≤ 1048576 := hlen
    have hnt : ∀ s ∈ now, s.length ≤ 140737488355328 := htxt
    repeat first
      | (apply WL.q; exact rfl; exact rfl; exact rfl; (first | (apply EvW.move; exact rfl) | (apply EvW.assign; exact rfl) | (apply EvW.cmpT; exact rfl; exact rfl; exact rfl; omega) | (apply EvW.lenRow; exact rfl; exact UndC.eq; assumption) | (apply EvW.idxRow; exact rfl; exact rfl; exact UndC.eq; exact SzC.eq; assumption; omega; omega)))
      | refine WC.seq ?_ | refine WC.region ?_ | refine WL.nil ?_ | refine WE.next ?_ | refine WC.block ?_ | refine WC.skip ?_ | refine WC.condT rfl ?_
    try refine WL.wanted rfl rfl rfl ?_
    (apply WL.q; exact rfl; exact rfl; exact rfl; (apply EvW.ldRow (i := ((i : Nat) : Int).toNat) (off := 0) (q := nv); exact rfl; exact ScalC.eq; assumption; (rw [show ((i : Nat) : Int).toNat * 1 + 0 = i by omega, List.getElem?_map, List.getElem?_eq_getElem hi, ← hnv, List.getD_eq_getElem?_getD, List.getElem?_eq_getElem hi]; rfl)))
    have hnl2 : (now.length : Int) ≤ 1048576 := by omega
    repeat first
      | (apply WL.q; exact rfl; exact rfl; exact rfl; (first | (apply EvW.move; exact rfl) | (apply EvW.assign; exact rfl) | (apply EvW.lenRow; exact rfl; exact UndC.eq; assumption)))
      | refine WC.seq ?_ | refine WC.region ?_ | refine WL.nil ?_ | refine WE.next ?_ | refine WC.block ?_
    refine WC.ownNil 34 2 ?_
    refine WC.keep (xs := [.own 34 2 ((Value.slice none 0 0)) ((telsOf p (now.take 0))).length (((telsOf p (now.take 0))).flatMap telC), wiresH wb [(⟨p, 3, la, []⟩ : Wr)]]) (by rw [List.take_zero]; (focus ((repeat constructor); done))) ?_
    refine WC.loopK (σ := Nat × Value) [0, 1, 2, 7, 9, 10, 12, 42, 43] (fun s => [(11, s.2), (44, i64 s.1)]) (fun s => [.own 34 2 (s.2) ((telsOf p (now.take s.1))).length (((telsOf p (now.take s.1))).flatMap telC), wiresH wb [(⟨p, 3, la, []⟩ : Wr)]]) (fun s => s.1 ≤ now.length) (fun s => now.length - s.1) (0, (Value.slice none 0 0)) (by (focus ((repeat (first | exact Pick.nil | (apply Pick.cons; exact rfl))); done))) (by (focus ((repeat (first | exact trivial | (refine ⟨rfl, ?_⟩))); done))) (fun _ h => h.keep (by repeat constructor)) (Nat.zero_le _) (fun s hs => ?_)
    obtain ⟨k, iv⟩ := s
    simp only [List.cons_append, List.nil_append] at hs ⊢
    by_cases hk : (k : Int) < now.length
    · have hk2 : k < now.length := by omega
      have hkl : (telsOf p (now.take k)).length = k := by rw [telsOf_l, List.length_take]; omega
      repeat first
        | (apply WL.q; exact rfl; exact rfl; exact rfl; (first | (apply EvW.move; exact rfl) | (apply EvW.assign; exact rfl) | (apply EvW.cmpT; exact rfl; exact rfl; exact rfl; omega) | (apply EvW.build; exact PlC.eq; exact ZvC.eq; exact rfl; exact rfl; (focus ((repeat (first | exact Fills.nil | (apply Fills.cons; exact rfl; (first | assumption | exact rfl); exact rfl) | exact SetMany.nil | apply SetMany.cons | apply SetMany.succ)); done))) | (apply EvW.ldStr; exact rfl; exact ScalC.eq; assumption; omega) | (apply EvW.idxRow; exact rfl; exact rfl; exact UndC.eq; exact SzC.eq; assumption; omega; omega)))
        | refine WC.seq ?_ | refine WC.region ?_ | refine WL.nil ?_ | refine WE.next ?_ | refine WC.block ?_ | refine WC.skip ?_ | refine WC.condT rfl ?_
      try refine WL.wanted rfl rfl rfl ?_
      (apply WL.buildSlice; exact rfl; exact UndC.eq; exact SzC.eq; exact ZvC.eq; exact rfl; exact rfl; exact rfl; ((focus ((repeat (first | exact Flat.nil | (apply Flat.one; (first | exact rfl | assumption)) | (apply Flat.cons; exact rfl; exact rfl))); done))); exact rfl; exact rfl; intro k0)
      skip
      try refine WL.wanted rfl rfl rfl ?_
      (apply WL.append; exact rfl; exact rfl; exact rfl; exact UndC.eq; exact SzC.eq; exact ByC.eq; exact ZvC.eq; exact rfl; (first | exact notInt_sl UndC.eq | exact notInt_st UndC.eq); exact rfl; (focus ((repeat constructor); done)))
      · exact adds_blk .head rfl rfl
      · (rw [hkl]; omega)
      intro iv2
      refine WL.ownEq (cs' := (telsOf p (now.take (k + 1))).flatMap telC) (len' := (telsOf p (now.take (k + 1))).length) .head (by rw [telsOf_stepL p now k hk2]) (by rw [telsOf_step p now k hk2]; rfl) ?_
      (first | refine WL.slOwn (v := iv2) (by repeat constructor) ?_ | refine WC.slOwn (v := iv2) (by repeat constructor) ?_)
      intro hc_iv2 ho_iv2
      repeat first
        | (apply WL.q; exact rfl; exact rfl; exact rfl; (first | (apply EvW.move; exact rfl) | (apply EvW.assign; exact rfl) | (apply EvW.arN; exact rfl; exact rfl; exact rfl; refine i64_in ?_ ?_ <;> omega)))
        | refine WC.region ?_ | refine WL.nil ?_ | refine WE.next ?_ | refine WE.out ?_
      exact WE.again (s := (k, iv)) ((k + 1, iv2)) (by simp only []; omega) (by (focus ((repeat (first | exact trivial | (refine ⟨rfl, ?_⟩))); done))) (fun _ h => (by (try simp only []); exact h.keep (by repeat constructor))) (by (try simp only []); omega)
    · obtain rfl : k = now.length := by omega
      rw [List.take_length]
      repeat first
        | (apply WL.q; exact rfl; exact rfl; exact rfl; (first | (apply EvW.cmpF; exact rfl; exact rfl; exact rfl; omega)))
        | refine WC.seq ?_ | refine WC.region ?_ | refine WL.nil ?_ | refine WE.next ?_ | refine WC.exit ?_ | refine WE.pass ?_ | refine WE.hit ?_ | refine WC.condF rfl ?_
      try refine WL.wanted rfl rfl rfl ?_
      (apply WL.buildSlice; exact rfl; exact UndC.eq; exact SzC.eq; exact ZvC.eq; exact rfl; exact rfl; exact rfl; ((focus ((repeat (first | exact Flat.nil | (apply Flat.one; (first | exact rfl | assumption)) | (apply Flat.cons; exact rfl; exact rfl))); done))); exact rfl; exact rfl; intro k1)
      refine WL.conv (fun _ hs => St.zero hs) ?_
      repeat first
        | (apply WL.q; exact rfl; exact rfl; exact rfl; (first | (apply EvW.move; exact rfl)))
      try refine WL.wanted rfl rfl rfl ?_
      (apply WL.append; exact rfl; exact rfl; exact rfl; exact UndC.eq; exact SzC.eq; exact ByC.eq; exact ZvC.eq; exact rfl; (first | exact notInt_sl UndC.eq | exact notInt_st UndC.eq); exact rfl; (focus ((repeat constructor); done)))
      · exact adds_row hla (all_str _)
      · (omega)
      intro wv
      refine WL.ownEq (cs' := la.map str) (len' := la.length) .head (Nat.zero_add _) (List.nil_append _) ?_
      (first | refine WL.slOwn (v := wv) (by repeat constructor) ?_ | refine WC.slOwn (v := wv) (by repeat constructor) ?_)
      intro hc_wv ho_wv
      repeat first
        | (apply WL.q; exact rfl; exact rfl; exact rfl; (first | (apply EvW.move; exact rfl) | (apply EvW.assign; exact rfl)))
        | refine WC.seq ?_ | refine WC.region ?_ | refine WL.nil ?_ | refine WE.next ?_ | refine WC.condT rfl ?_
      try refine WL.wanted rfl rfl rfl ?_
      (apply WL.append; exact rfl; exact rfl; exact rfl; exact UndC.eq; exact SzC.eq; exact ByC.eq; exact ZvC.eq; exact rfl; (first | exact notInt_sl UndC.eq | exact notInt_st UndC.eq); exact rfl; (focus ((repeat constructor); done)))
      · exact adds_row hnow (all_str _)
      · (omega)
      intro wv2
      refine WL.ownEq (cs' := (la ++ now).map str) (len' := (la ++ now).length) .head (List.length_append).symm (List.map_append).symm ?_
      (first | refine WL.slOwn (v := wv2) (by repeat constructor) ?_ | refine WC.slOwn (v := wv2) (by repeat constructor) ?_)
      intro hc_wv2 ho_wv2
      repeat first
        | (apply WL.q; exact rfl; exact rfl; exact rfl; (first | (apply EvW.move; exact rfl) | (apply EvW.assign; exact rfl)))
        | refine WC.seq ?_ | refine WC.region ?_ | refine WL.nil ?_ | refine WE.next ?_
      try refine WL.wanted rfl rfl rfl ?_
      apply WL.callA ([wiresH wb [(⟨p, 3, la, []⟩ : Wr)]])
      · exact rfl
      · exact rfl
      · exact fun w => Try.call14 _ w
      · (focus ((repeat constructor); done))
      · exact fun w1 S1 hS1 hs1 ho1 => pass_spec wb [(⟨p, 3, la, []⟩ : Wr)] iv (telsOf p now) w1 S1 hS1 (ho1 (.own 34 2 (iv) ((telsOf p now)).length (((telsOf p now)).flatMap telC)) _ (by repeat constructor)).own (okx_one hp) (by rw [under_d', telsOf_l]; omega) (fun x h => by unfold telsOf at h; obtain ⟨s, hs, rfl⟩ := List.mem_map.1 h; exact hnt s hs)
      rintro _ _ rfl
      first | refine WL.app4 ?_ | refine WL.app3 ?_ | refine WL.app2 ?_ | refine WL.app1 ?_ | refine WL.app0 ?_ | skip
      rename_i ov
      rw [pass_late3]
      dsimp only
      have hun := under_d p 3 now
      have hun2 : underF [(⟨p, 3, now, []⟩ : Wr)] ≤ 2147483648 := by omega
      obtain ⟨W, hW⟩ : ∃ W, la ++ now = W := ⟨_, rfl⟩
      have hWl : (W.length : Int) ≤ 2097152 := by rw [← hW]; rw [List.length_append]; omega
      rw [hW]
      obtain ⟨L, hL⟩ : ∃ L, telsOf p W = L := ⟨_, rfl⟩
      have hLl : L.length = W.length := by rw [← hL, telsOf_l]
      have hLat : ∀ j, j < W.length → L.getD j default = (p, W.getD j []) := fun j hj => by rw [← hL, telsOf_at p W j hj]
      rw [hL]
      repeat first
        | (apply WL.q; exact rfl; exact rfl; exact rfl; (first | (apply EvW.move; exact rfl) | (apply EvW.assign; exact rfl) | (apply EvW.cmpF; exact rfl; exact rfl; exact rfl; omega) | (apply EvW.lenOwn; exact rfl; exact UndC.eq; (focus ((repeat constructor); done)))))
        | refine WC.seq ?_ | refine WC.region ?_ | refine WL.nil ?_ | refine WE.next ?_ | refine WL.wanted rfl rfl rfl ?_
      try refine WL.wanted rfl rfl rfl ?_
      apply WL.callA ([])
      · exact rfl
      · exact rfl
      · exact fun w => Try.call17 _ w
      · (focus ((repeat constructor); done))
      · exact fun w1 S1 hS1 hs1 ho1 => under_spec wb [(⟨p, 3, now, []⟩ : Wr)] w1 S1 hS1 (ho1 (wiresH wb [(⟨p, 3, now, []⟩ : Wr)]) _ (by repeat constructor)) (nodup_d _ _ _) hun2
      rintro _ _ ⟨rfl, rfl⟩
      first | refine WL.app4 ?_ | refine WL.app3 ?_ | refine WL.app2 ?_ | refine WL.app1 ?_ | refine WL.app0 ?_ | skip
      rw [hun]
      repeat first
        | (apply WL.q; exact rfl; exact rfl; exact rfl; (first | (apply EvW.move; exact rfl) | (apply EvW.cmpF; exact rfl; exact rfl; exact rfl; omega) | (apply EvW.pickF; exact rfl; exact rfl) | (apply EvW.lenRow; exact rfl; exact UndC.eq; assumption) | (apply EvW.lenOwn; exact rfl; exact UndC.eq; (focus ((repeat constructor); done)))))
        | refine WC.seq ?_ | refine WC.region ?_ | refine WL.nil ?_ | refine WE.next ?_ | refine WC.block ?_ | refine WC.skip ?_ | refine WC.condF rfl ?_ | refine WL.wanted rfl rfl rfl ?_
      refine WC.loopK (σ := Nat) [0, 1, 2, 7, 10, 12, 15, 77, 78] (fun s => [(79, i64 s)]) (fun s => [wiresH wb [(⟨p, 3, now, []⟩ : Wr)], .own 34 2 (ov) (L).length ((L).flatMap telC), .own 9 1 (wv2) (W).length ((W).map str)]) (fun s => s ≤ L.length) (fun s => L.length - s) 0 (by (focus ((repeat (first | exact Pick.nil | (apply Pick.cons; exact rfl))); done))) (by (focus ((repeat (first | exact trivial | (refine ⟨rfl, ?_⟩))); done))) (fun _ h => h.keep (by repeat constructor)) (Nat.zero_le _) (fun s hs => ?_)
      obtain ⟨j, rfl⟩ : ∃ q, q = s := ⟨s, rfl⟩
      simp only [List.cons_append, List.nil_append] at hs ⊢
      by_cases hj : (j : Int) < L.length
      · have hj2 : j < W.length := by omega
        have hl := hLat j hj2
        have hjj : ((j : Nat) : Int).toNat = j := rfl
        repeat first
          | (apply WL.q; exact rfl; exact rfl; exact rfl; (first | (apply EvW.move; exact rfl) | (apply EvW.cmpT; exact rfl; exact rfl; exact rfl; omega) | (apply EvW.idxOwn; exact rfl; exact rfl; exact UndC.eq; exact SzC.eq; (focus ((repeat constructor); done)); omega; omega)))
          | refine WC.seq ?_ | refine WC.region ?_ | refine WL.nil ?_ | refine WE.next ?_ | refine WC.block ?_ | refine WC.skip ?_ | refine WC.condT rfl ?_
        try refine WL.wanted rfl rfl rfl ?_
        (apply WL.q; exact rfl; exact rfl; exact rfl; (apply EvW.ldElemOwn (xs := L) (z := (default : Tel)) (f := telC); exact rfl; exact AggC.eq; exact SzC.eq; exact rfl; exact fun _ => rfl; (focus ((repeat constructor); done)); omega))
        try refine WL.wanted rfl rfl rfl ?_
        (apply WL.alloc; exact rfl; exact ZvC.eq; exact rfl; intro tb)
        rw [hjj, hl]
        repeat first
          | (apply WL.q; exact rfl; exact rfl; exact rfl; (first | (apply EvW.assign; exact rfl)))
          | refine WC.seq ?_ | refine WL.nil ?_ | refine WE.next ?_ | (apply WL.store; exact rfl; exact rfl; (first | assumption | exact rfl); exact SzC.eq; (first | assumption | exact rfl); (focus ((repeat constructor); done)))
        repeat refine WC.seq ?_
        refine WC.keep (xs := [wiresH wb [(⟨p, 3, now, []⟩ : Wr)], .own 34 2 (ov) (L).length ((L).flatMap telC), .own 9 1 (wv2) (W).length ((W).map str), .blk tb #[i64 p, str (W.getD j [])] 34]) (by repeat constructor) ?_
        apply WC.par _ (fun c : Ch => [wiresH wb [(⟨p, 3, now, []⟩ : Wr)], .own 34 2 (ov) (L).length ((L).flatMap telC), .own 9 1 (wv2) (W).length ((W).map str), .blk tb #[i64 p, str (W.getD j [])] 34]) [none, none, none, none] [none, none, none, none] [] Try.mixed
        · (focus ((repeat (first | exact Restr.nil | (apply Restr.keep; exact rfl; exact rfl) | (apply Restr.drop; exact rfl))); done))
        · intro c; exact (by repeat constructor)
        · exact rfl
        · decide +kernel
        · decide +kernel
        · intro c
          (apply Par.quiet _ [true, true, true, true]; exact rfl; decide +kernel; exact rfl; intro R; refine ⟨_, (by repeat constructor), ?_⟩;
               (first | (apply EvW.fieldAddr0; exact rfl; exact FldC.eq)))
          (apply Par.quiet _ [true, true, true, true]; exact rfl; decide +kernel; exact rfl; intro R; refine ⟨_, (by repeat constructor), ?_⟩;
               (first | (apply EvW.load; exact rfl; exact ScalC.eq; (focus ((repeat constructor); done)); exact rfl)))
          (apply Par.quiet _ [true, true, true, true]; exact rfl; decide +kernel; exact rfl; intro R; refine ⟨_, (by repeat constructor), ?_⟩;
               (first | (apply EvW.move; exact rfl)))
          (apply Par.quiet _ [true, true, true, true]; exact rfl; decide +kernel; exact rfl; intro R; refine ⟨_, (by repeat constructor), ?_⟩;
               (first | (apply EvW.cmpF; exact rfl; exact rfl; exact rfl; omega)))
          (apply Par.quiet _ [true, true, true, true]; exact rfl; decide +kernel; exact rfl; intro R; refine ⟨_, (by repeat constructor), ?_⟩;
               (first | (apply EvW.move; exact rfl)))
          first
            | (apply Par.skip; exact rfl; decide +kernel; exact rfl)
            | (apply Par.quiet _ [true, true, true, true]; exact rfl; decide +kernel; exact rfl; intro R; refine ⟨_, (by repeat constructor), ?_⟩;
               (first | (apply EvW.fieldAddr0; exact rfl; exact FldC.eq)))
          first
            | (apply Par.skip; exact rfl; decide +kernel; exact rfl)
            | (apply Par.quiet _ [true, true, true, true]; exact rfl; decide +kernel; exact rfl; intro R; refine ⟨_, (by repeat constructor), ?_⟩;
               (first | (apply EvW.load; exact rfl; exact ScalC.eq; (focus ((repeat constructor); done)); exact rfl)))
          first
            | (apply Par.skip; exact rfl; decide +kernel; exact rfl)
            | (apply Par.quiet _ [true, true, true, true]; exact rfl; decide +kernel; exact rfl; intro R; refine ⟨_, (by repeat constructor), ?_⟩;
               (first | (apply EvW.move; exact rfl)))
          first
            | (apply Par.skip; exact rfl; decide +kernel; exact rfl)
            | (apply Par.quiet _ [true, true, true, true]; exact rfl; decide +kernel; exact rfl; intro R; refine ⟨_, (by repeat constructor), ?_⟩;
               (first | (apply EvW.move; exact rfl)))
          first
            | (apply Par.skip; exact rfl; decide +kernel; exact rfl)
            | (apply Par.quiet _ [true, true, true, true]; exact rfl; decide +kernel; exact rfl; intro R; refine ⟨_, (by repeat constructor), ?_⟩;
               (first | (apply EvW.idxOwn; exact rfl; exact rfl; exact UndC.eq; exact SzC.eq; (focus ((repeat constructor); done)); omega; omega)))
          first
            | (apply Par.skip; exact rfl; decide +kernel; exact rfl)
            | (apply Par.quiet _ [true, true, true, true]; exact rfl; decide +kernel; exact rfl; intro R; refine ⟨_, (by repeat constructor), ?_⟩;
               (first | (apply EvW.ldStrOwn; exact rfl; exact ScalC.eq; (focus ((repeat constructor); done)); omega)))
          first
            | (apply Par.skip; exact rfl; decide +kernel; exact rfl)
            | (apply Par.quiet _ [true, true, true, true]; exact rfl; decide +kernel; exact rfl; intro R; refine ⟨_, (by repeat constructor), ?_⟩;
               (first | (apply EvW.sneS; exact rfl; exact rfl)))
          (apply Par.quiet _ [true, true, true, true]; exact rfl; decide +kernel; exact rfl; intro R; refine ⟨_, (by repeat constructor), ?_⟩;
               (first | (apply EvW.pickF; exact rfl; exact rfl)))
          exact Par.nil
        · repeat (first | exact AllN.nil | (apply AllN.cons; (intro c x; (repeat (first | exact IndA.nil | (apply IndA.skip; decide +kernel) | apply IndA.same))))) 
        · repeat (first | exact AllN.nil | (apply AllN.cons; (intro c x; (repeat (first | exact IndT.nil | (apply IndT.skip; decide +kernel) | apply IndT.same))))) 
        · exact fun _ => rfl
        intro c
        refine ⟨_, (by repeat constructor), ?_⟩
        apply WE.writ
        · (focus ((repeat (first | exact Writ.nil | apply Writ.some | apply Writ.none)); done))
        rw [hjj]
        repeat first
          | (apply WL.q; exact rfl; exact rfl; exact rfl; (first | (apply EvW.move; exact rfl) | (apply EvW.arN; exact rfl; exact rfl; exact rfl; refine i64_in ?_ ?_ <;> omega)))
          | refine WC.region ?_ | refine WL.nil ?_ | refine WE.next ?_ | refine WC.skip ?_ | refine WE.out ?_ | refine WC.condF rfl ?_
        exact WE.again (s := j) ((j + 1)) (by omega) (by (focus ((repeat (first | exact trivial | (refine ⟨rfl, ?_⟩))); done))) (fun _ h => (by (try simp only []); exact h.keep (by repeat constructor))) (by (try simp only []); omega)
      · repeat first
          | (apply WL.q; exact rfl; exact rfl; exact rfl; (first | (apply EvW.move; exact rfl) | (apply EvW.assign; exact rfl) | (apply EvW.cmpF; exact rfl; exact rfl; exact rfl; omega) | (apply EvW.arN; exact rfl; exact rfl; exact rfl; refine i64_in ?_ ?_ <;> omega)))
          | refine WC.seq ?_ | refine WC.region ?_ | refine WL.nil ?_ | refine WE.next ?_ | refine WC.exit ?_ | refine WE.pass ?_ | refine WE.hit ?_ | refine WE.out ?_ | refine WC.condF rfl ?_
        exact WE.again (s := (i, lv, la)) ((i + 1, nv, now)) ⟨by simp only []; omega, hnow, hnl, hnt⟩ (by (focus ((repeat (first | exact trivial | (refine ⟨rfl, ?_⟩))); done))) (fun _ h => (by (try simp only []); exact h.keep (by repeat constructor))) (by (try simp only []); omega)
  · have hnow : Sees w S (.row 1 (Value.slice none 0 0) ([] : List Txt).length (([] : List Txt).map str)) := Sees.nilRow
    have hnl : ([] : List Txt).length ≤ 1048576 := Nat.zero_le _
    have hnt : ∀ s ∈ ([] : List Txt), s.length ≤ 140737488355328 := fun s h => by cases h
    have hnl2 : (([] : List Txt).length : Int) ≤ 1048576 := by omega
    repeat first
      | (apply WL.q; exact rfl; exact rfl; exact rfl; (first | (apply EvW.move; exact rfl) | (apply EvW.assign; exact rfl) | (apply EvW.lenL; exact rfl; exact UndC.eq) | (apply EvW.cmpT; exact rfl; exact rfl; exact rfl; omega) | (apply EvW.cmpF; exact rfl; exact rfl; exact rfl; omega) | (apply EvW.lenRow; exact rfl; exact UndC.eq; assumption)))
      | refine WC.seq ?_ | refine WC.region ?_ | refine WL.nil ?_ | refine WE.next ?_ | refine WC.block ?_ | refine WC.skip ?_ | refine WC.condT rfl ?_ | refine WC.condF rfl ?_
    refine WC.ownNil 34 2 ?_
    refine WC.keep (xs := [.own 34 2 ((Value.slice none 0 0)) ((telsOf p (([] : List Txt).take 0))).length (((telsOf p (([] : List Txt).take 0))).flatMap telC), wiresH wb [(⟨p, 3, la, []⟩ : Wr)]]) (by rw [List.take_zero]; (focus ((repeat constructor); done))) ?_
    refine WC.loopK (σ := Nat × Value) [0, 1, 2, 7, 9, 10, 12, 42, 43] (fun s => [(11, s.2), (44, i64 s.1)]) (fun s => [.own 34 2 (s.2) ((telsOf p (([] : List Txt).take s.1))).length (((telsOf p (([] : List Txt).take s.1))).flatMap telC), wiresH wb [(⟨p, 3, la, []⟩ : Wr)]]) (fun s => s.1 ≤ ([] : List Txt).length) (fun s => ([] : List Txt).length - s.1) (0, (Value.slice none 0 0)) (by (focus ((repeat (first | exact Pick.nil | (apply Pick.cons; exact rfl))); done))) (by (focus ((repeat (first | exact trivial | (refine ⟨rfl, ?_⟩))); done))) (fun _ h => h.keep (by repeat constructor)) (Nat.zero_le _) (fun s hs => ?_)
    obtain ⟨k, iv⟩ := s
    simp only [List.cons_append, List.nil_append] at hs ⊢
    by_cases hk : (k : Int) < ([] : List Txt).length
    · have hk2 : k < ([] : List Txt).length := by omega
      have hkl : (telsOf p (([] : List Txt).take k)).length = k := by rw [telsOf_l, List.length_take]; omega
      repeat first
        | (apply WL.q; exact rfl; exact rfl; exact rfl; (first | (apply EvW.move; exact rfl) | (apply EvW.assign; exact rfl) | (apply EvW.cmpT; exact rfl; exact rfl; exact rfl; omega) | (apply EvW.build; exact PlC.eq; exact ZvC.eq; exact rfl; exact rfl; (focus ((repeat (first | exact Fills.nil | (apply Fills.cons; exact rfl; (first | assumption | exact rfl); exact rfl) | exact SetMany.nil | apply SetMany.cons | apply SetMany.succ)); done))) | (apply EvW.ldStr; exact rfl; exact ScalC.eq; assumption; omega) | (apply EvW.idxRow; exact rfl; exact rfl; exact UndC.eq; exact SzC.eq; assumption; omega; omega)))
        | refine WC.seq ?_ | refine WC.region ?_ | refine WL.nil ?_ | refine WE.next ?_ | refine WC.block ?_ | refine WC.skip ?_ | refine WC.condT rfl ?_
      try refine WL.wanted rfl rfl rfl ?_
      (apply WL.buildSlice; exact rfl; exact UndC.eq; exact SzC.eq; exact ZvC.eq; exact rfl; exact rfl; exact rfl; ((focus ((repeat (first | exact Flat.nil | (apply Flat.one; (first | exact rfl | assumption)) | (apply Flat.cons; exact rfl; exact rfl))); done))); exact rfl; exact rfl; intro k0)
      skip
      try refine WL.wanted rfl rfl rfl ?_
      (apply WL.append; exact rfl; exact rfl; exact rfl; exact UndC.eq; exact SzC.eq; exact ByC.eq; exact ZvC.eq; exact rfl; (first | exact notInt_sl UndC.eq | exact notInt_st UndC.eq); exact rfl; (focus ((repeat constructor); done)))
      · exact adds_blk .head rfl rfl
      · (rw [hkl]; omega)
      intro iv2
      refine WL.ownEq (cs' := (telsOf p (([] : List Txt).take (k + 1))).flatMap telC) (len' := (telsOf p (([] : List Txt).take (k + 1))).length) .head (by rw [telsOf_stepL p ([] : List Txt) k hk2]) (by rw [telsOf_step p ([] : List Txt) k hk2]; rfl) ?_
      (first | refine WL.slOwn (v := iv2) (by repeat constructor) ?_ | refine WC.slOwn (v := iv2) (by repeat constructor) ?_)
      intro hc_iv2 ho_iv2
      repeat first
        | (apply WL.q; exact rfl; exact rfl; exact rfl; (first | (apply EvW.move; exact rfl) | (apply EvW.assign; exact rfl) | (apply EvW.arN; exact rfl; exact rfl; exact rfl; refine i64_in ?_ ?_ <;> omega)))
        | refine WC.region ?_ | refine WL.nil ?_ | refine WE.next ?_ | refine WE.out ?_
      exact WE.again (s := (k, iv)) ((k + 1, iv2)) (by simp only []; omega) (by (focus ((repeat (first | exact trivial | (refine ⟨rfl, ?_⟩))); done))) (fun _ h => (by (try simp only []); exact h.keep (by repeat constructor))) (by (try simp only []); omega)
    · obtain rfl : k = ([] : List Txt).length := by omega
      rw [List.take_length]
      repeat first
        | (apply WL.q; exact rfl; exact rfl; exact rfl; (first | (apply EvW.cmpF; exact rfl; exact rfl; exact rfl; omega)))
        | refine WC.seq ?_ | refine WC.region ?_ | refine WL.nil ?_ | refine WE.next ?_ | refine WC.exit ?_ | refine WE.pass ?_ | refine WE.hit ?_ | refine WC.condF rfl ?_
      try refine WL.wanted rfl rfl rfl ?_
      (apply WL.buildSlice; exact rfl; exact UndC.eq; exact SzC.eq; exact ZvC.eq; exact rfl; exact rfl; exact rfl; ((focus ((repeat (first | exact Flat.nil | (apply Flat.one; (first | exact rfl | assumption)) | (apply Flat.cons; exact rfl; exact rfl))); done))); exact rfl; exact rfl; intro k1)
      refine WL.conv (fun _ hs => St.zero hs) ?_
      repeat first
        | (apply WL.q; exact rfl; exact rfl; exact rfl; (first | (apply EvW.move; exact rfl)))
      try refine WL.wanted rfl rfl rfl ?_
      (apply WL.append; exact rfl; exact rfl; exact rfl; exact UndC.eq; exact SzC.eq; exact ByC.eq; exact ZvC.eq; exact rfl; (first | exact notInt_sl UndC.eq | exact notInt_st UndC.eq); exact rfl; (focus ((repeat constructor); done)))
      · exact adds_row hla (all_str _)
      · (omega)
      intro wv
      refine WL.ownEq (cs' := la.map str) (len' := la.length) .head (Nat.zero_add _) (List.nil_append _) ?_
      (first | refine WL.slOwn (v := wv) (by repeat constructor) ?_ | refine WC.slOwn (v := wv) (by repeat constructor) ?_)
      intro hc_wv ho_wv
      repeat first
        | (apply WL.q; exact rfl; exact rfl; exact rfl; (first | (apply EvW.move; exact rfl) | (apply EvW.assign; exact rfl)))
        | refine WC.seq ?_ | refine WC.region ?_ | refine WL.nil ?_ | refine WE.next ?_ | refine WC.condT rfl ?_
      try refine WL.wanted rfl rfl rfl ?_
      (apply WL.append; exact rfl; exact rfl; exact rfl; exact UndC.eq; exact SzC.eq; exact ByC.eq; exact ZvC.eq; exact rfl; (first | exact notInt_sl UndC.eq | exact notInt_st UndC.eq); exact rfl; (focus ((repeat constructor); done)))
      · exact adds_row hnow (all_str _)
      · (omega)
      intro wv2
      refine WL.ownEq (cs' := (la ++ ([] : List Txt)).map str) (len' := (la ++ ([] : List Txt)).length) .head (List.length_append).symm (List.map_append).symm ?_
      (first | refine WL.slOwn (v := wv2) (by repeat constructor) ?_ | refine WC.slOwn (v := wv2) (by repeat constructor) ?_)
      intro hc_wv2 ho_wv2
      repeat first
        | (apply WL.q; exact rfl; exact rfl; exact rfl; (first | (apply EvW.move; exact rfl) | (apply EvW.assign; exact rfl)))
        | refine WC.seq ?_ | refine WC.region ?_ | refine WL.nil ?_ | refine WE.next ?_
      try refine WL.wanted rfl rfl rfl ?_
      apply WL.callA ([wiresH wb [(⟨p, 3, la, []⟩ : Wr)]])
      · exact rfl
      · exact rfl
      · exact fun w => Try.call14 _ w
      · (focus ((repeat constructor); done))
      · exact fun w1 S1 hS1 hs1 ho1 => pass_spec wb [(⟨p, 3, la, []⟩ : Wr)] iv (telsOf p ([] : List Txt)) w1 S1 hS1 (ho1 (.own 34 2 (iv) ((telsOf p ([] : List Txt))).length (((telsOf p ([] : List Txt))).flatMap telC)) _ (by repeat constructor)).own (okx_one hp) (by rw [under_d', telsOf_l]; omega) (fun x h => by unfold telsOf at h; obtain ⟨s, hs, rfl⟩ := List.mem_map.1 h; exact hnt s hs)
      rintro _ _ rfl
      first | refine WL.app4 ?_ | refine WL.app3 ?_ | refine WL.app2 ?_ | refine WL.app1 ?_ | refine WL.app0 ?_ | skip
      rename_i ov
      rw [pass_late3]
      dsimp only
      have hun := under_d p 3 ([] : List Txt)
      have hun2 : underF [(⟨p, 3, ([] : List Txt), []⟩ : Wr)] ≤ 2147483648 := by omega
      obtain ⟨W, hW⟩ : ∃ W, la ++ ([] : List Txt) = W := ⟨_, rfl⟩
      have hWl : (W.length : Int) ≤ 2097152 := by rw [← hW]; rw [List.length_append]; omega
      rw [hW]
      obtain ⟨L, hL⟩ : ∃ L, telsOf p W = L := ⟨_, rfl⟩
      have hLl : L.length = W.length := by rw [← hL, telsOf_l]
      have hLat : ∀ j, j < W.length → L.getD j default = (p, W.getD j []) := fun j hj => by rw [← hL, telsOf_at p W j hj]
      rw [hL]
      repeat first
        | (apply WL.q; exact rfl; exact rfl; exact rfl; (first | (apply EvW.move; exact rfl) | (apply EvW.assign; exact rfl) | (apply EvW.cmpF; exact rfl; exact rfl; exact rfl; omega) | (apply EvW.lenOwn; exact rfl; exact UndC.eq; (focus ((repeat constructor); done)))))
        | refine WC.seq ?_ | refine WC.region ?_ | refine WL.nil ?_ | refine WE.next ?_ | refine WL.wanted rfl rfl rfl ?_
      try refine WL.wanted rfl rfl rfl ?_
      apply WL.callA ([])
      · exact rfl
      · exact rfl
      · exact fun w => Try.call17 _ w
      · (focus ((repeat constructor); done))
      · exact fun w1 S1 hS1 hs1 ho1 => under_spec wb [(⟨p, 3, ([] : List Txt), []⟩ : Wr)] w1 S1 hS1 (ho1 (wiresH wb [(⟨p, 3, ([] : List Txt), []⟩ : Wr)]) _ (by repeat constructor)) (nodup_d _ _ _) hun2
      rintro _ _ ⟨rfl, rfl⟩
      first | refine WL.app4 ?_ | refine WL.app3 ?_ | refine WL.app2 ?_ | refine WL.app1 ?_ | refine WL.app0 ?_ | skip
      rw [hun]
      repeat first
        | (apply WL.q; exact rfl; exact rfl; exact rfl; (first | (apply EvW.move; exact rfl) | (apply EvW.lenL; exact rfl; exact UndC.eq) | (apply EvW.cmp; exact rfl; exact rfl; exact rfl) | (apply EvW.pickF; exact rfl; exact rfl) | (apply EvW.lenOwn; exact rfl; exact UndC.eq; (focus ((repeat constructor); done)))))
        | refine WC.seq ?_ | refine WC.region ?_ | refine WL.nil ?_ | refine WE.next ?_ | refine WC.block ?_ | refine WC.skip ?_ | refine WC.condF rfl ?_ | refine WL.wanted rfl rfl rfl ?_
      refine WC.loopK (σ := Nat) [0, 1, 2, 7, 10, 12, 15, 77, 78] (fun s => [(79, i64 s)]) (fun s => [wiresH wb [(⟨p, 3, ([] : List Txt), []⟩ : Wr)], .own 34 2 (ov) (L).length ((L).flatMap telC), .own 9 1 (wv2) (W).length ((W).map str)]) (fun s => s ≤ L.length) (fun s => L.length - s) 0 (by (focus ((repeat (first | exact Pick.nil | (apply Pick.cons; exact rfl))); done))) (by (focus ((repeat (first | exact trivial | (refine ⟨rfl, ?_⟩))); done))) (fun _ h => h.keep (by repeat constructor)) (Nat.zero_le _) (fun s hs => ?_)
      obtain ⟨j, rfl⟩ : ∃ q, q = s := ⟨s, rfl⟩
      simp only [List.cons_append, List.nil_append] at hs ⊢
      by_cases hj : (j : Int) < L.length
      · have hj2 : j < W.length := by omega
        have hl := hLat j hj2
        have hjj : ((j : Nat) : Int).toNat = j := rfl
        repeat first
          | (apply WL.q; exact rfl; exact rfl; exact rfl; (first | (apply EvW.move; exact rfl) | (apply EvW.cmpT; exact rfl; exact rfl; exact rfl; omega) | (apply EvW.idxOwn; exact rfl; exact rfl; exact UndC.eq; exact SzC.eq; (focus ((repeat constructor); done)); omega; omega)))
          | refine WC.seq ?_ | refine WC.region ?_ | refine WL.nil ?_ | refine WE.next ?_ | refine WC.block ?_ | refine WC.skip ?_ | refine WC.condT rfl ?_
        try refine WL.wanted rfl rfl rfl ?_
        (apply WL.q; exact rfl; exact rfl; exact rfl; (apply EvW.ldElemOwn (xs := L) (z := (default : Tel)) (f := telC); exact rfl; exact AggC.eq; exact SzC.eq; exact rfl; exact fun _ => rfl; (focus ((repeat constructor); done)); omega))
        try refine WL.wanted rfl rfl rfl ?_
        (apply WL.alloc; exact rfl; exact ZvC.eq; exact rfl; intro tb)
        rw [hjj, hl]
        repeat first
          | (apply WL.q; exact rfl; exact rfl; exact rfl; (first | (apply EvW.assign; exact rfl)))
          | refine WC.seq ?_ | refine WL.nil ?_ | refine WE.next ?_ | (apply WL.store; exact rfl; exact rfl; (first | assumption | exact rfl); exact SzC.eq; (first | assumption | exact rfl); (focus ((repeat constructor); done)))
        repeat refine WC.seq ?_
        refine WC.keep (xs := [wiresH wb [(⟨p, 3, ([] : List Txt), []⟩ : Wr)], .own 34 2 (ov) (L).length ((L).flatMap telC), .own 9 1 (wv2) (W).length ((W).map str), .blk tb #[i64 p, str (W.getD j [])] 34]) (by repeat constructor) ?_
        apply WC.par _ (fun c : Ch => [wiresH wb [(⟨p, 3, ([] : List Txt), []⟩ : Wr)], .own 34 2 (ov) (L).length ((L).flatMap telC), .own 9 1 (wv2) (W).length ((W).map str), .blk tb #[i64 p, str (W.getD j [])] 34]) [none, none, none, none] [none, none, none, none] [] Try.mixed
        · (focus ((repeat (first | exact Restr.nil | (apply Restr.keep; exact rfl; exact rfl) | (apply Restr.drop; exact rfl))); done))
        · intro c; exact (by repeat constructor)
        · exact rfl
        · decide +kernel
        · decide +kernel
        · intro c
          (apply Par.quiet _ [true, true, true, true]; exact rfl; decide +kernel; exact rfl; intro R; refine ⟨_, (by repeat constructor), ?_⟩;
               (first | (apply EvW.fieldAddr0; exact rfl; exact FldC.eq)))
          (apply Par.quiet _ [true, true, true, true]; exact rfl; decide +kernel; exact rfl; intro R; refine ⟨_, (by repeat constructor), ?_⟩;
               (first | (apply EvW.load; exact rfl; exact ScalC.eq; (focus ((repeat constructor); done)); exact rfl)))
          (apply Par.quiet _ [true, true, true, true]; exact rfl; decide +kernel; exact rfl; intro R; refine ⟨_, (by repeat constructor), ?_⟩;
               (first | (apply EvW.move; exact rfl)))
          (apply Par.quiet _ [true, true, true, true]; exact rfl; decide +kernel; exact rfl; intro R; refine ⟨_, (by repeat constructor), ?_⟩;
               (first | (apply EvW.cmpF; exact rfl; exact rfl; exact rfl; omega)))
          (apply Par.quiet _ [true, true, true, true]; exact rfl; decide +kernel; exact rfl; intro R; refine ⟨_, (by repeat constructor), ?_⟩;
               (first | (apply EvW.move; exact rfl)))
          first
            | (apply Par.skip; exact rfl; decide +kernel; exact rfl)
            | (apply Par.quiet _ [true, true, true, true]; exact rfl; decide +kernel; exact rfl; intro R; refine ⟨_, (by repeat constructor), ?_⟩;
               (first | (apply EvW.fieldAddr0; exact rfl; exact FldC.eq)))
          first
            | (apply Par.skip; exact rfl; decide +kernel; exact rfl)
            | (apply Par.quiet _ [true, true, true, true]; exact rfl; decide +kernel; exact rfl; intro R; refine ⟨_, (by repeat constructor), ?_⟩;
               (first | (apply EvW.load; exact rfl; exact ScalC.eq; (focus ((repeat constructor); done)); exact rfl)))
          first
            | (apply Par.skip; exact rfl; decide +kernel; exact rfl)
            | (apply Par.quiet _ [true, true, true, true]; exact rfl; decide +kernel; exact rfl; intro R; refine ⟨_, (by repeat constructor), ?_⟩;
               (first | (apply EvW.move; exact rfl)))
          first
            | (apply Par.skip; exact rfl; decide +kernel; exact rfl)
            | (apply Par.quiet _ [true, true, true, true]; exact rfl; decide +kernel; exact rfl; intro R; refine ⟨_, (by repeat constructor), ?_⟩;
               (first | (apply EvW.move; exact rfl)))
          first
            | (apply Par.skip; exact rfl; decide +kernel; exact rfl)
            | (apply Par.quiet _ [true, true, true, true]; exact rfl; decide +kernel; exact rfl; intro R; refine ⟨_, (by repeat constructor), ?_⟩;
               (first | (apply EvW.idxOwn; exact rfl; exact rfl; exact UndC.eq; exact SzC.eq; (focus ((repeat constructor); done)); omega; omega)))
          first
            | (apply Par.skip; exact rfl; decide +kernel; exact rfl)
            | (apply Par.quiet _ [true, true, true, true]; exact rfl; decide +kernel; exact rfl; intro R; refine ⟨_, (by repeat constructor), ?_⟩;
               (first | (apply EvW.ldStrOwn; exact rfl; exact ScalC.eq; (focus ((repeat constructor); done)); omega)))
          first
            | (apply Par.skip; exact rfl; decide +kernel; exact rfl)
            | (apply Par.quiet _ [true, true, true, true]; exact rfl; decide +kernel; exact rfl; intro R; refine ⟨_, (by repeat constructor), ?_⟩;
               (first | (apply EvW.sneS; exact rfl; exact rfl)))
          (apply Par.quiet _ [true, true, true, true]; exact rfl; decide +kernel; exact rfl; intro R; refine ⟨_, (by repeat constructor), ?_⟩;
               (first | (apply EvW.pickF; exact rfl; exact rfl)))
          exact Par.nil
        · repeat (first | exact AllN.nil | (apply AllN.cons; (intro c x; (repeat (first | exact IndA.nil | (apply IndA.skip; decide +kernel) | apply IndA.same))))) 
        · repeat (first | exact AllN.nil | (apply AllN.cons; (intro c x; (repeat (first | exact IndT.nil | (apply IndT.skip; decide +kernel) | apply IndT.same))))) 
        · exact fun _ => rfl
        intro c
        refine ⟨_, (by repeat constructor), ?_⟩
        apply WE.writ
        · (focus ((repeat (first | exact Writ.nil | apply Writ.some | apply Writ.none)); done))
        rw [hjj]
        repeat first
          | (apply WL.q; exact rfl; exact rfl; exact rfl; (first | (apply EvW.move; exact rfl) | (apply EvW.arN; exact rfl; exact rfl; exact rfl; refine i64_in ?_ ?_ <;> omega)))
          | refine WC.region ?_ | refine WL.nil ?_ | refine WE.next ?_ | refine WC.skip ?_ | refine WE.out ?_ | refine WC.condF rfl ?_
        exact WE.again (s := j) ((j + 1)) (by omega) (by (focus ((repeat (first | exact trivial | (refine ⟨rfl, ?_⟩))); done))) (fun _ h => (by (try simp only []); exact h.keep (by repeat constructor))) (by (try simp only []); omega)
      · repeat first
          | (apply WL.q; exact rfl; exact rfl; exact rfl; (first | (apply EvW.move; exact rfl) | (apply EvW.assign; exact rfl) | (apply EvW.cmpF; exact rfl; exact rfl; exact rfl; omega) | (apply EvW.arN; exact rfl; exact rfl; exact rfl; refine i64_in ?_ ?_ <;> omega)))
          | refine WC.seq ?_ | refine WC.region ?_ | refine WL.nil ?_ | refine WE.next ?_ | refine WC.exit ?_ | refine WE.pass ?_ | refine WE.hit ?_ | refine WE.out ?_ | refine WC.condF rfl ?_
        exact WE.again (s := (i, lv, la)) ((i + 1, (Value.slice none 0 0), ([] : List Txt))) ⟨by simp only []; omega, hnow, hnl, hnt⟩ (by (focus ((repeat (first | exact trivial | (refine ⟨rfl, ?_⟩))); done))) (fun _ h => (by (try simp only []); exact h.keep (by repeat constructor))) (by (try simp only []); omega)
set_option maxHeartbeats 8000000 in
set_option maxRecDepth 8000 in
theorem wiresLate_false (p : Int) (v : Value) (rs : List (Value × List Txt)) (w : World) (S : BSet) (hS : (sepL []).sat S w) (hp : (Lit.int .i64 p).wf = true) (hv : Sees w S (.row 1 v rs.length (rs.map (·.1)))) (hn : rs.length ≤ 1048576) (hr : Rows2 rs w S) :
    Tri Try.prog 8 #[i64 p, v, .bool false] w S fun u A => u = .bool true := by
  refine Tri.enter (l := [i64 p, v, .bool false]) Try.func8 rfl Try.ntmps8 rfl [(0, i64 p), (1, v), (2, .bool false)] (subA rfl) hS ?_
  repeat first
    | (apply WL.q; exact rfl; exact rfl; exact rfl; (first | (apply EvW.assign; exact rfl)))
    | refine WC.seq ?_ | refine WC.region ?_ | refine WL.nil ?_ | refine WE.next ?_
  try refine WL.wanted rfl rfl rfl ?_
  apply WL.callA ([])
  · exact rfl
  · exact rfl
  · exact fun w => Try.call9 _ w
  · (focus ((repeat constructor); done))
  · exact fun w1 S1 hS1 hs1 ho1 => lives20_spec w1 S1 hS1
  rintro _ _ ⟨rfl, rfl⟩
  first | refine WL.app4 ?_ | refine WL.app3 ?_ | refine WL.app2 ?_ | refine WL.app1 ?_ | refine WL.app0 ?_ | skip
  repeat first
    | (apply WL.q; exact rfl; exact rfl; exact rfl; (first | (apply EvW.notT; exact rfl)))
    | refine WC.seq ?_ | refine WC.region ?_ | refine WL.nil ?_ | refine WE.next ?_ | refine WC.skip ?_ | refine WC.condF rfl ?_
  try refine WL.wanted rfl rfl rfl ?_
  apply WL.callA ([])
  · exact rfl
  · exact rfl
  · exact fun w => Try.call10 _ w
  · (focus ((repeat constructor); done))
  · exact fun w1 S1 hS1 hs1 ho1 => wnew_spec w1 S1 hS1
  rintro _ _ ⟨wb, rfl, rfl⟩
  first | refine WL.app4 ?_ | refine WL.app3 ?_ | refine WL.app2 ?_ | refine WL.app1 ?_ | refine WL.app0 ?_ | skip
  repeat first
    | (apply WL.q; exact rfl; exact rfl; exact rfl; (first | (apply EvW.move; exact rfl) | (apply EvW.assign; exact rfl)))
    | refine WC.seq ?_ | refine WC.region ?_ | refine WL.nil ?_ | refine WE.next ?_ | refine WC.skip ?_ | refine WC.condF rfl ?_
  try refine WL.wanted rfl rfl rfl ?_
  apply WL.callA ([wiresH wb []])
  · exact rfl
  · exact rfl
  · exact fun w => Try.call12 _ w
  · (focus ((repeat constructor); done))
  · exact fun w1 S1 hS1 hs1 ho1 => set_spec wb [] p 2 w1 S1 hS1
  rintro _ _ ⟨rfl, rfl⟩
  first | refine WL.app4 ?_ | refine WL.app3 ?_ | refine WL.app2 ?_ | refine WL.app1 ?_ | refine WL.app0 ?_ | skip
  rw [if_neg (by decide), set_nil p 2 (by decide)]
  repeat first
    | (apply WL.q; exact rfl; exact rfl; exact rfl; (first | (apply EvW.assign; exact rfl) | (apply EvW.cmpF; exact rfl; exact rfl; exact rfl; omega)))
    | refine WC.seq ?_ | refine WC.region ?_ | refine WL.nil ?_ | refine WE.next ?_ | refine WC.block ?_ | refine WC.skip ?_ | refine WC.condF rfl ?_
  refine WC.loopK (σ := Nat × Value × List Txt) [0, 1, 2, 7] (fun s => [(9, s.2.1), (10, i64 s.1)]) (fun s => [wiresH wb [(⟨p, 2, s.2.2, []⟩ : Wr)]]) (fun s => s.1 ≤ rs.length + 1 ∧ Sees w S (.row 1 s.2.1 s.2.2.length (s.2.2.map str)) ∧ s.2.2.length ≤ 1048576 ∧ (∀ x ∈ s.2.2, x.length ≤ 140737488355328)) (fun s => rs.length + 1 - s.1) (0, (Value.slice none 0 0), []) (by (focus ((repeat (first | exact Pick.nil | (apply Pick.cons; exact rfl))); done))) (by (focus ((repeat (first | exact trivial | (refine ⟨rfl, ?_⟩))); done))) (fun _ h => h.keep (by repeat constructor)) ⟨Nat.zero_le _, Sees.nilRow, Nat.zero_le _, fun s h => by cases h⟩ (fun s hs => ?_)
  obtain ⟨i, lv, la⟩ := s
  simp only [List.cons_append, List.nil_append] at hs ⊢
  obtain ⟨hi0, hla, hlal, hlat⟩ := hs
  by_cases hle : (i : Int) ≤ rs.length
  rotate_left
  · repeat first
      | (apply WL.q; exact rfl; exact rfl; exact rfl; (first | (apply EvW.move; exact rfl) | (apply EvW.assign; exact rfl) | (apply EvW.cmpF; exact rfl; exact rfl; exact rfl; omega) | (apply EvW.lenRow; exact rfl; exact UndC.eq; assumption)))
      | refine WC.seq ?_ | refine WC.region ?_ | refine WL.nil ?_ | refine WE.next ?_ | refine WC.exit ?_ | refine WE.pass ?_ | refine WE.hit ?_ | refine WC.condF rfl ?_ | refine WC.ret ?_
    refine WE.keep (xs := []) (by repeat constructor) ?_
    refine WE.ret1 rfl rfl ?_
    rfl
  by_cases hlt : (i : Int) < rs.length
  · have hi : i < rs.length := by omega
    have hrow := hr.row i hi
    have hlen := hr.len i hi
    have htxt := hr.txt i hi
    obtain ⟨nv, hnv⟩ : ∃ nv, (rs.getD i default).1 = nv := ⟨_, rfl⟩
    obtain ⟨now, hno⟩ : ∃ now, (rs.getD i default).2 = now := ⟨_, rfl⟩
    rw [hnv, hno] at hrow
    rw [hno] at hlen htxt
    have hnow : Sees w S (.row 1 nv now.length (now.map str)) := hrow
    have hnl : now.length ≤ 1048576 := hlen
    have hnt : ∀ s ∈ now, s.length ≤ 140737488355328 := htxt
    repeat first
      | (apply WL.q; exact rfl; exact rfl; exact rfl; (first | (apply EvW.move; exact rfl) | (apply EvW.assign; exact rfl) | (apply EvW.cmpT; exact rfl; exact rfl; exact rfl; omega) | (apply EvW.lenRow; exact rfl; exact UndC.eq; assumption) | (apply EvW.idxRow; exact rfl; exact rfl; exact UndC.eq; exact SzC.eq; assumption; omega; omega)))
      | refine WC.seq ?_ | refine WC.region ?_ | refine WL.nil ?_ | refine WE.next ?_ | refine WC.block ?_ | refine WC.skip ?_ | refine WC.condT rfl ?_
    try refine WL.wanted rfl rfl rfl ?_
    (apply WL.q; exact rfl; exact rfl; exact rfl; (apply EvW.ldRow (i := ((i : Nat) : Int).toNat) (off := 0) (q := nv); exact rfl; exact ScalC.eq; assumption; (rw [show ((i : Nat) : Int).toNat * 1 + 0 = i by omega, List.getElem?_map, List.getElem?_eq_getElem hi, ← hnv, List.getD_eq_getElem?_getD, List.getElem?_eq_getElem hi]; rfl)))
    have hnl2 : (now.length : Int) ≤ 1048576 := by omega
    repeat first
      | (apply WL.q; exact rfl; exact rfl; exact rfl; (first | (apply EvW.move; exact rfl) | (apply EvW.assign; exact rfl) | (apply EvW.lenRow; exact rfl; exact UndC.eq; assumption)))
      | refine WC.seq ?_ | refine WC.region ?_ | refine WL.nil ?_ | refine WE.next ?_ | refine WC.block ?_
    refine WC.ownNil 34 2 ?_
    refine WC.keep (xs := [.own 34 2 ((Value.slice none 0 0)) ((telsOf p (now.take 0))).length (((telsOf p (now.take 0))).flatMap telC), wiresH wb [(⟨p, 2, la, []⟩ : Wr)]]) (by rw [List.take_zero]; (focus ((repeat constructor); done))) ?_
    refine WC.loopK (σ := Nat × Value) [0, 1, 2, 7, 9, 10, 12, 42, 43] (fun s => [(11, s.2), (44, i64 s.1)]) (fun s => [.own 34 2 (s.2) ((telsOf p (now.take s.1))).length (((telsOf p (now.take s.1))).flatMap telC), wiresH wb [(⟨p, 2, la, []⟩ : Wr)]]) (fun s => s.1 ≤ now.length) (fun s => now.length - s.1) (0, (Value.slice none 0 0)) (by (focus ((repeat (first | exact Pick.nil | (apply Pick.cons; exact rfl))); done))) (by (focus ((repeat (first | exact trivial | (refine ⟨rfl, ?_⟩))); done))) (fun _ h => h.keep (by repeat constructor)) (Nat.zero_le _) (fun s hs => ?_)
    obtain ⟨k, iv⟩ := s
    simp only [List.cons_append, List.nil_append] at hs ⊢
    by_cases hk : (k : Int) < now.length
    · have hk2 : k < now.length := by omega
      have hkl : (telsOf p (now.take k)).length = k := by rw [telsOf_l, List.length_take]; omega
      repeat first
        | (apply WL.q; exact rfl; exact rfl; exact rfl; (first | (apply EvW.move; exact rfl) | (apply EvW.assign; exact rfl) | (apply EvW.cmpT; exact rfl; exact rfl; exact rfl; omega) | (apply EvW.build; exact PlC.eq; exact ZvC.eq; exact rfl; exact rfl; (focus ((repeat (first | exact Fills.nil | (apply Fills.cons; exact rfl; (first | assumption | exact rfl); exact rfl) | exact SetMany.nil | apply SetMany.cons | apply SetMany.succ)); done))) | (apply EvW.ldStr; exact rfl; exact ScalC.eq; assumption; omega) | (apply EvW.idxRow; exact rfl; exact rfl; exact UndC.eq; exact SzC.eq; assumption; omega; omega)))
        | refine WC.seq ?_ | refine WC.region ?_ | refine WL.nil ?_ | refine WE.next ?_ | refine WC.block ?_ | refine WC.skip ?_ | refine WC.condT rfl ?_
      try refine WL.wanted rfl rfl rfl ?_
      (apply WL.buildSlice; exact rfl; exact UndC.eq; exact SzC.eq; exact ZvC.eq; exact rfl; exact rfl; exact rfl; ((focus ((repeat (first | exact Flat.nil | (apply Flat.one; (first | exact rfl | assumption)) | (apply Flat.cons; exact rfl; exact rfl))); done))); exact rfl; exact rfl; intro k0)
      skip
      try refine WL.wanted rfl rfl rfl ?_
      (apply WL.append; exact rfl; exact rfl; exact rfl; exact UndC.eq; exact SzC.eq; exact ByC.eq; exact ZvC.eq; exact rfl; (first | exact notInt_sl UndC.eq | exact notInt_st UndC.eq); exact rfl; (focus ((repeat constructor); done)))
      · exact adds_blk .head rfl rfl
      · (rw [hkl]; omega)
      intro iv2
      refine WL.ownEq (cs' := (telsOf p (now.take (k + 1))).flatMap telC) (len' := (telsOf p (now.take (k + 1))).length) .head (by rw [telsOf_stepL p now k hk2]) (by rw [telsOf_step p now k hk2]; rfl) ?_
      (first | refine WL.slOwn (v := iv2) (by repeat constructor) ?_ | refine WC.slOwn (v := iv2) (by repeat constructor) ?_)
      intro hc_iv2 ho_iv2
      repeat first
        | (apply WL.q; exact rfl; exact rfl; exact rfl; (first | (apply EvW.move; exact rfl) | (apply EvW.assign; exact rfl) | (apply EvW.arN; exact rfl; exact rfl; exact rfl; refine i64_in ?_ ?_ <;> omega)))
        | refine WC.region ?_ | refine WL.nil ?_ | refine WE.next ?_ | refine WE.out ?_
      exact WE.again (s := (k, iv)) ((k + 1, iv2)) (by simp only []; omega) (by (focus ((repeat (first | exact trivial | (refine ⟨rfl, ?_⟩))); done))) (fun _ h => (by (try simp only []); exact h.keep (by repeat constructor))) (by (try simp only []); omega)
    · obtain rfl : k = now.length := by omega
      rw [List.take_length]
      repeat first
        | (apply WL.q; exact rfl; exact rfl; exact rfl; (first | (apply EvW.cmpF; exact rfl; exact rfl; exact rfl; omega)))
        | refine WC.seq ?_ | refine WC.region ?_ | refine WL.nil ?_ | refine WE.next ?_ | refine WC.exit ?_ | refine WE.pass ?_ | refine WE.hit ?_ | refine WC.condF rfl ?_
      try refine WL.wanted rfl rfl rfl ?_
      (apply WL.buildSlice; exact rfl; exact UndC.eq; exact SzC.eq; exact ZvC.eq; exact rfl; exact rfl; exact rfl; ((focus ((repeat (first | exact Flat.nil | (apply Flat.one; (first | exact rfl | assumption)) | (apply Flat.cons; exact rfl; exact rfl))); done))); exact rfl; exact rfl; intro k1)
      refine WL.conv (fun _ hs => St.zero hs) ?_
      repeat first
        | (apply WL.q; exact rfl; exact rfl; exact rfl; (first | (apply EvW.move; exact rfl)))
      try refine WL.wanted rfl rfl rfl ?_
      (apply WL.append; exact rfl; exact rfl; exact rfl; exact UndC.eq; exact SzC.eq; exact ByC.eq; exact ZvC.eq; exact rfl; (first | exact notInt_sl UndC.eq | exact notInt_st UndC.eq); exact rfl; (focus ((repeat constructor); done)))
      · exact adds_row hla (all_str _)
      · (omega)
      intro wv
      refine WL.ownEq (cs' := la.map str) (len' := la.length) .head (Nat.zero_add _) (List.nil_append _) ?_
      (first | refine WL.slOwn (v := wv) (by repeat constructor) ?_ | refine WC.slOwn (v := wv) (by repeat constructor) ?_)
      intro hc_wv ho_wv
      repeat first
        | (apply WL.q; exact rfl; exact rfl; exact rfl; (first | (apply EvW.move; exact rfl) | (apply EvW.assign; exact rfl)))
        | refine WC.seq ?_ | refine WC.region ?_ | refine WL.nil ?_ | refine WE.next ?_ | refine WC.skip ?_ | refine WC.condF rfl ?_
      try refine WL.wanted rfl rfl rfl ?_
      apply WL.callA ([wiresH wb [(⟨p, 2, la, []⟩ : Wr)]])
      · exact rfl
      · exact rfl
      · exact fun w => Try.call14 _ w
      · (focus ((repeat constructor); done))
      · exact fun w1 S1 hS1 hs1 ho1 => pass_spec wb [(⟨p, 2, la, []⟩ : Wr)] iv (telsOf p now) w1 S1 hS1 (ho1 (.own 34 2 (iv) ((telsOf p now)).length (((telsOf p now)).flatMap telC)) _ (by repeat constructor)).own (okx_one hp) (by rw [under_d', telsOf_l]; omega) (fun x h => by unfold telsOf at h; obtain ⟨s, hs, rfl⟩ := List.mem_map.1 h; exact hnt s hs)
      rintro _ _ rfl
      first | refine WL.app4 ?_ | refine WL.app3 ?_ | refine WL.app2 ?_ | refine WL.app1 ?_ | refine WL.app0 ?_ | skip
      rename_i ov
      rw [pass_late2]
      dsimp only
      have hun := under_d p 2 now
      have hun2 : underF [(⟨p, 2, now, []⟩ : Wr)] ≤ 2147483648 := by omega
      obtain ⟨W, hW⟩ : ∃ W, la = W := ⟨_, rfl⟩
      have hWl : (W.length : Int) ≤ 2097152 := by rw [← hW]; omega
      rw [hW]
      obtain ⟨L, hL⟩ : ∃ L, telsOf p W = L := ⟨_, rfl⟩
      have hLl : L.length = W.length := by rw [← hL, telsOf_l]
      have hLat : ∀ j, j < W.length → L.getD j default = (p, W.getD j []) := fun j hj => by rw [← hL, telsOf_at p W j hj]
      rw [hL]
      repeat first
        | (apply WL.q; exact rfl; exact rfl; exact rfl; (first | (apply EvW.move; exact rfl) | (apply EvW.assign; exact rfl) | (apply EvW.cmpF; exact rfl; exact rfl; exact rfl; omega) | (apply EvW.lenOwn; exact rfl; exact UndC.eq; (focus ((repeat constructor); done)))))
        | refine WC.seq ?_ | refine WC.region ?_ | refine WL.nil ?_ | refine WE.next ?_ | refine WL.wanted rfl rfl rfl ?_
      try refine WL.wanted rfl rfl rfl ?_
      apply WL.callA ([])
      · exact rfl
      · exact rfl
      · exact fun w => Try.call17 _ w
      · (focus ((repeat constructor); done))
      · exact fun w1 S1 hS1 hs1 ho1 => under_spec wb [(⟨p, 2, now, []⟩ : Wr)] w1 S1 hS1 (ho1 (wiresH wb [(⟨p, 2, now, []⟩ : Wr)]) _ (by repeat constructor)) (nodup_d _ _ _) hun2
      rintro _ _ ⟨rfl, rfl⟩
      first | refine WL.app4 ?_ | refine WL.app3 ?_ | refine WL.app2 ?_ | refine WL.app1 ?_ | refine WL.app0 ?_ | skip
      rw [hun]
      repeat first
        | (apply WL.q; exact rfl; exact rfl; exact rfl; (first | (apply EvW.move; exact rfl) | (apply EvW.cmpF; exact rfl; exact rfl; exact rfl; omega) | (apply EvW.pickF; exact rfl; exact rfl) | (apply EvW.lenRow; exact rfl; exact UndC.eq; assumption) | (apply EvW.lenOwn; exact rfl; exact UndC.eq; (focus ((repeat constructor); done)))))
        | refine WC.seq ?_ | refine WC.region ?_ | refine WL.nil ?_ | refine WE.next ?_ | refine WC.block ?_ | refine WC.skip ?_ | refine WC.condF rfl ?_ | refine WL.wanted rfl rfl rfl ?_
      refine WC.loopK (σ := Nat) [0, 1, 2, 7, 10, 12, 15, 77, 78] (fun s => [(79, i64 s)]) (fun s => [wiresH wb [(⟨p, 2, now, []⟩ : Wr)], .own 34 2 (ov) (L).length ((L).flatMap telC), .own 9 1 (wv) (W).length ((W).map str)]) (fun s => s ≤ L.length) (fun s => L.length - s) 0 (by (focus ((repeat (first | exact Pick.nil | (apply Pick.cons; exact rfl))); done))) (by (focus ((repeat (first | exact trivial | (refine ⟨rfl, ?_⟩))); done))) (fun _ h => h.keep (by repeat constructor)) (Nat.zero_le _) (fun s hs => ?_)
      obtain ⟨j, rfl⟩ : ∃ q, q = s := ⟨s, rfl⟩
      simp only [List.cons_append, List.nil_append] at hs ⊢
      by_cases hj : (j : Int) < L.length
      · have hj2 : j < W.length := by omega
        have hl := hLat j hj2
        have hjj : ((j : Nat) : Int).toNat = j := rfl
        repeat first
          | (apply WL.q; exact rfl; exact rfl; exact rfl; (first | (apply EvW.move; exact rfl) | (apply EvW.cmpT; exact rfl; exact rfl; exact rfl; omega) | (apply EvW.idxOwn; exact rfl; exact rfl; exact UndC.eq; exact SzC.eq; (focus ((repeat constructor); done)); omega; omega)))
          | refine WC.seq ?_ | refine WC.region ?_ | refine WL.nil ?_ | refine WE.next ?_ | refine WC.block ?_ | refine WC.skip ?_ | refine WC.condT rfl ?_
        try refine WL.wanted rfl rfl rfl ?_
        (apply WL.q; exact rfl; exact rfl; exact rfl; (apply EvW.ldElemOwn (xs := L) (z := (default : Tel)) (f := telC); exact rfl; exact AggC.eq; exact SzC.eq; exact rfl; exact fun _ => rfl; (focus ((repeat constructor); done)); omega))
        try refine WL.wanted rfl rfl rfl ?_
        (apply WL.alloc; exact rfl; exact ZvC.eq; exact rfl; intro tb)
        rw [hjj, hl]
        repeat first
          | (apply WL.q; exact rfl; exact rfl; exact rfl; (first | (apply EvW.assign; exact rfl)))
          | refine WC.seq ?_ | refine WL.nil ?_ | refine WE.next ?_ | (apply WL.store; exact rfl; exact rfl; (first | assumption | exact rfl); exact SzC.eq; (first | assumption | exact rfl); (focus ((repeat constructor); done)))
        repeat refine WC.seq ?_
        refine WC.keep (xs := [wiresH wb [(⟨p, 2, now, []⟩ : Wr)], .own 34 2 (ov) (L).length ((L).flatMap telC), .own 9 1 (wv) (W).length ((W).map str), .blk tb #[i64 p, str (W.getD j [])] 34]) (by repeat constructor) ?_
        apply WC.par _ (fun c : Ch => [wiresH wb [(⟨p, 2, now, []⟩ : Wr)], .own 34 2 (ov) (L).length ((L).flatMap telC), .own 9 1 (wv) (W).length ((W).map str), .blk tb #[i64 p, str (W.getD j [])] 34]) [none, none, none, none] [none, none, none, none] [] Try.mixed
        · (focus ((repeat (first | exact Restr.nil | (apply Restr.keep; exact rfl; exact rfl) | (apply Restr.drop; exact rfl))); done))
        · intro c; exact (by repeat constructor)
        · exact rfl
        · decide +kernel
        · decide +kernel
        · intro c
          (apply Par.quiet _ [true, true, true, true]; exact rfl; decide +kernel; exact rfl; intro R; refine ⟨_, (by repeat constructor), ?_⟩;
               (first | (apply EvW.fieldAddr0; exact rfl; exact FldC.eq)))
          (apply Par.quiet _ [true, true, true, true]; exact rfl; decide +kernel; exact rfl; intro R; refine ⟨_, (by repeat constructor), ?_⟩;
               (first | (apply EvW.load; exact rfl; exact ScalC.eq; (focus ((repeat constructor); done)); exact rfl)))
          (apply Par.quiet _ [true, true, true, true]; exact rfl; decide +kernel; exact rfl; intro R; refine ⟨_, (by repeat constructor), ?_⟩;
               (first | (apply EvW.move; exact rfl)))
          (apply Par.quiet _ [true, true, true, true]; exact rfl; decide +kernel; exact rfl; intro R; refine ⟨_, (by repeat constructor), ?_⟩;
               (first | (apply EvW.cmpF; exact rfl; exact rfl; exact rfl; omega)))
          (apply Par.quiet _ [true, true, true, true]; exact rfl; decide +kernel; exact rfl; intro R; refine ⟨_, (by repeat constructor), ?_⟩;
               (first | (apply EvW.move; exact rfl)))
          first
            | (apply Par.skip; exact rfl; decide +kernel; exact rfl)
            | (apply Par.quiet _ [true, true, true, true]; exact rfl; decide +kernel; exact rfl; intro R; refine ⟨_, (by repeat constructor), ?_⟩;
               (first | (apply EvW.fieldAddr0; exact rfl; exact FldC.eq)))
          first
            | (apply Par.skip; exact rfl; decide +kernel; exact rfl)
            | (apply Par.quiet _ [true, true, true, true]; exact rfl; decide +kernel; exact rfl; intro R; refine ⟨_, (by repeat constructor), ?_⟩;
               (first | (apply EvW.load; exact rfl; exact ScalC.eq; (focus ((repeat constructor); done)); exact rfl)))
          first
            | (apply Par.skip; exact rfl; decide +kernel; exact rfl)
            | (apply Par.quiet _ [true, true, true, true]; exact rfl; decide +kernel; exact rfl; intro R; refine ⟨_, (by repeat constructor), ?_⟩;
               (first | (apply EvW.move; exact rfl)))
          first
            | (apply Par.skip; exact rfl; decide +kernel; exact rfl)
            | (apply Par.quiet _ [true, true, true, true]; exact rfl; decide +kernel; exact rfl; intro R; refine ⟨_, (by repeat constructor), ?_⟩;
               (first | (apply EvW.move; exact rfl)))
          first
            | (apply Par.skip; exact rfl; decide +kernel; exact rfl)
            | (apply Par.quiet _ [true, true, true, true]; exact rfl; decide +kernel; exact rfl; intro R; refine ⟨_, (by repeat constructor), ?_⟩;
               (first | (apply EvW.idxOwn; exact rfl; exact rfl; exact UndC.eq; exact SzC.eq; (focus ((repeat constructor); done)); omega; omega)))
          first
            | (apply Par.skip; exact rfl; decide +kernel; exact rfl)
            | (apply Par.quiet _ [true, true, true, true]; exact rfl; decide +kernel; exact rfl; intro R; refine ⟨_, (by repeat constructor), ?_⟩;
               (first | (apply EvW.ldStrOwn; exact rfl; exact ScalC.eq; (focus ((repeat constructor); done)); omega)))
          first
            | (apply Par.skip; exact rfl; decide +kernel; exact rfl)
            | (apply Par.quiet _ [true, true, true, true]; exact rfl; decide +kernel; exact rfl; intro R; refine ⟨_, (by repeat constructor), ?_⟩;
               (first | (apply EvW.sneS; exact rfl; exact rfl)))
          (apply Par.quiet _ [true, true, true, true]; exact rfl; decide +kernel; exact rfl; intro R; refine ⟨_, (by repeat constructor), ?_⟩;
               (first | (apply EvW.pickF; exact rfl; exact rfl)))
          exact Par.nil
        · repeat (first | exact AllN.nil | (apply AllN.cons; (intro c x; (repeat (first | exact IndA.nil | (apply IndA.skip; decide +kernel) | apply IndA.same))))) 
        · repeat (first | exact AllN.nil | (apply AllN.cons; (intro c x; (repeat (first | exact IndT.nil | (apply IndT.skip; decide +kernel) | apply IndT.same))))) 
        · exact fun _ => rfl
        intro c
        refine ⟨_, (by repeat constructor), ?_⟩
        apply WE.writ
        · (focus ((repeat (first | exact Writ.nil | apply Writ.some | apply Writ.none)); done))
        rw [hjj]
        repeat first
          | (apply WL.q; exact rfl; exact rfl; exact rfl; (first | (apply EvW.move; exact rfl) | (apply EvW.arN; exact rfl; exact rfl; exact rfl; refine i64_in ?_ ?_ <;> omega)))
          | refine WC.region ?_ | refine WL.nil ?_ | refine WE.next ?_ | refine WC.skip ?_ | refine WE.out ?_ | refine WC.condF rfl ?_
        exact WE.again (s := j) ((j + 1)) (by omega) (by (focus ((repeat (first | exact trivial | (refine ⟨rfl, ?_⟩))); done))) (fun _ h => (by (try simp only []); exact h.keep (by repeat constructor))) (by (try simp only []); omega)
      · repeat first
          | (apply WL.q; exact rfl; exact rfl; exact rfl; (first | (apply EvW.move; exact rfl) | (apply EvW.assign; exact rfl) | (apply EvW.cmpF; exact rfl; exact rfl; exact rfl; omega) | (apply EvW.arN; exact rfl; exact rfl; exact rfl; refine i64_in ?_ ?_ <;> omega)))
          | refine WC.seq ?_ | refine WC.region ?_ | refine WL.nil ?_ | refine WE.next ?_ | refine WC.exit ?_ | refine WE.pass ?_ | refine WE.hit ?_ | refine WE.out ?_ | refine WC.condF rfl ?_
        exact WE.again (s := (i, lv, la)) ((i + 1, nv, now)) ⟨by simp only []; omega, hnow, hnl, hnt⟩ (by (focus ((repeat (first | exact trivial | (refine ⟨rfl, ?_⟩))); done))) (fun _ h => (by (try simp only []); exact h.keep (by repeat constructor))) (by (try simp only []); omega)
  · have hnow : Sees w S (.row 1 (Value.slice none 0 0) ([] : List Txt).length (([] : List Txt).map str)) := Sees.nilRow
    have hnl : ([] : List Txt).length ≤ 1048576 := Nat.zero_le _
    have hnt : ∀ s ∈ ([] : List Txt), s.length ≤ 140737488355328 := fun s h => by cases h
    have hnl2 : (([] : List Txt).length : Int) ≤ 1048576 := by omega
    repeat first
      | (apply WL.q; exact rfl; exact rfl; exact rfl; (first | (apply EvW.move; exact rfl) | (apply EvW.assign; exact rfl) | (apply EvW.lenL; exact rfl; exact UndC.eq) | (apply EvW.cmpT; exact rfl; exact rfl; exact rfl; omega) | (apply EvW.cmpF; exact rfl; exact rfl; exact rfl; omega) | (apply EvW.lenRow; exact rfl; exact UndC.eq; assumption)))
      | refine WC.seq ?_ | refine WC.region ?_ | refine WL.nil ?_ | refine WE.next ?_ | refine WC.block ?_ | refine WC.skip ?_ | refine WC.condT rfl ?_ | refine WC.condF rfl ?_
    refine WC.ownNil 34 2 ?_
    refine WC.keep (xs := [.own 34 2 ((Value.slice none 0 0)) ((telsOf p (([] : List Txt).take 0))).length (((telsOf p (([] : List Txt).take 0))).flatMap telC), wiresH wb [(⟨p, 2, la, []⟩ : Wr)]]) (by rw [List.take_zero]; (focus ((repeat constructor); done))) ?_
    refine WC.loopK (σ := Nat × Value) [0, 1, 2, 7, 9, 10, 12, 42, 43] (fun s => [(11, s.2), (44, i64 s.1)]) (fun s => [.own 34 2 (s.2) ((telsOf p (([] : List Txt).take s.1))).length (((telsOf p (([] : List Txt).take s.1))).flatMap telC), wiresH wb [(⟨p, 2, la, []⟩ : Wr)]]) (fun s => s.1 ≤ ([] : List Txt).length) (fun s => ([] : List Txt).length - s.1) (0, (Value.slice none 0 0)) (by (focus ((repeat (first | exact Pick.nil | (apply Pick.cons; exact rfl))); done))) (by (focus ((repeat (first | exact trivial | (refine ⟨rfl, ?_⟩))); done))) (fun _ h => h.keep (by repeat constructor)) (Nat.zero_le _) (fun s hs => ?_)
    obtain ⟨k, iv⟩ := s
    simp only [List.cons_append, List.nil_append] at hs ⊢
    by_cases hk : (k : Int) < ([] : List Txt).length
    · have hk2 : k < ([] : List Txt).length := by omega
      have hkl : (telsOf p (([] : List Txt).take k)).length = k := by rw [telsOf_l, List.length_take]; omega
      repeat first
        | (apply WL.q; exact rfl; exact rfl; exact rfl; (first | (apply EvW.move; exact rfl) | (apply EvW.assign; exact rfl) | (apply EvW.cmpT; exact rfl; exact rfl; exact rfl; omega) | (apply EvW.build; exact PlC.eq; exact ZvC.eq; exact rfl; exact rfl; (focus ((repeat (first | exact Fills.nil | (apply Fills.cons; exact rfl; (first | assumption | exact rfl); exact rfl) | exact SetMany.nil | apply SetMany.cons | apply SetMany.succ)); done))) | (apply EvW.ldStr; exact rfl; exact ScalC.eq; assumption; omega) | (apply EvW.idxRow; exact rfl; exact rfl; exact UndC.eq; exact SzC.eq; assumption; omega; omega)))
        | refine WC.seq ?_ | refine WC.region ?_ | refine WL.nil ?_ | refine WE.next ?_ | refine WC.block ?_ | refine WC.skip ?_ | refine WC.condT rfl ?_
      try refine WL.wanted rfl rfl rfl ?_
      (apply WL.buildSlice; exact rfl; exact UndC.eq; exact SzC.eq; exact ZvC.eq; exact rfl; exact rfl; exact rfl; ((focus ((repeat (first | exact Flat.nil | (apply Flat.one; (first | exact rfl | assumption)) | (apply Flat.cons; exact rfl; exact rfl))); done))); exact rfl; exact rfl; intro k0)
      skip
      try refine WL.wanted rfl rfl rfl ?_
      (apply WL.append; exact rfl; exact rfl; exact rfl; exact UndC.eq; exact SzC.eq; exact ByC.eq; exact ZvC.eq; exact rfl; (first | exact notInt_sl UndC.eq | exact notInt_st UndC.eq); exact rfl; (focus ((repeat constructor); done)))
      · exact adds_blk .head rfl rfl
      · (rw [hkl]; omega)
      intro iv2
      refine WL.ownEq (cs' := (telsOf p (([] : List Txt).take (k + 1))).flatMap telC) (len' := (telsOf p (([] : List Txt).take (k + 1))).length) .head (by rw [telsOf_stepL p ([] : List Txt) k hk2]) (by rw [telsOf_step p ([] : List Txt) k hk2]; rfl) ?_
      (first | refine WL.slOwn (v := iv2) (by repeat constructor) ?_ | refine WC.slOwn (v := iv2) (by repeat constructor) ?_)
      intro hc_iv2 ho_iv2
      repeat first
        | (apply WL.q; exact rfl; exact rfl; exact rfl; (first | (apply EvW.move; exact rfl) | (apply EvW.assign; exact rfl) | (apply EvW.arN; exact rfl; exact rfl; exact rfl; refine i64_in ?_ ?_ <;> omega)))
        | refine WC.region ?_ | refine WL.nil ?_ | refine WE.next ?_ | refine WE.out ?_
      exact WE.again (s := (k, iv)) ((k + 1, iv2)) (by simp only []; omega) (by (focus ((repeat (first | exact trivial | (refine ⟨rfl, ?_⟩))); done))) (fun _ h => (by (try simp only []); exact h.keep (by repeat constructor))) (by (try simp only []); omega)
    · obtain rfl : k = ([] : List Txt).length := by omega
      rw [List.take_length]
      repeat first
        | (apply WL.q; exact rfl; exact rfl; exact rfl; (first | (apply EvW.cmpF; exact rfl; exact rfl; exact rfl; omega)))
        | refine WC.seq ?_ | refine WC.region ?_ | refine WL.nil ?_ | refine WE.next ?_ | refine WC.exit ?_ | refine WE.pass ?_ | refine WE.hit ?_ | refine WC.condF rfl ?_
      try refine WL.wanted rfl rfl rfl ?_
      (apply WL.buildSlice; exact rfl; exact UndC.eq; exact SzC.eq; exact ZvC.eq; exact rfl; exact rfl; exact rfl; ((focus ((repeat (first | exact Flat.nil | (apply Flat.one; (first | exact rfl | assumption)) | (apply Flat.cons; exact rfl; exact rfl))); done))); exact rfl; exact rfl; intro k1)
      refine WL.conv (fun _ hs => St.zero hs) ?_
      repeat first
        | (apply WL.q; exact rfl; exact rfl; exact rfl; (first | (apply EvW.move; exact rfl)))
      try refine WL.wanted rfl rfl rfl ?_
      (apply WL.append; exact rfl; exact rfl; exact rfl; exact UndC.eq; exact SzC.eq; exact ByC.eq; exact ZvC.eq; exact rfl; (first | exact notInt_sl UndC.eq | exact notInt_st UndC.eq); exact rfl; (focus ((repeat constructor); done)))
      · exact adds_row hla (all_str _)
      · (omega)
      intro wv
      refine WL.ownEq (cs' := la.map str) (len' := la.length) .head (Nat.zero_add _) (List.nil_append _) ?_
      (first | refine WL.slOwn (v := wv) (by repeat constructor) ?_ | refine WC.slOwn (v := wv) (by repeat constructor) ?_)
      intro hc_wv ho_wv
      repeat first
        | (apply WL.q; exact rfl; exact rfl; exact rfl; (first | (apply EvW.move; exact rfl) | (apply EvW.assign; exact rfl)))
        | refine WC.seq ?_ | refine WC.region ?_ | refine WL.nil ?_ | refine WE.next ?_ | refine WC.skip ?_ | refine WC.condF rfl ?_
      try refine WL.wanted rfl rfl rfl ?_
      apply WL.callA ([wiresH wb [(⟨p, 2, la, []⟩ : Wr)]])
      · exact rfl
      · exact rfl
      · exact fun w => Try.call14 _ w
      · (focus ((repeat constructor); done))
      · exact fun w1 S1 hS1 hs1 ho1 => pass_spec wb [(⟨p, 2, la, []⟩ : Wr)] iv (telsOf p ([] : List Txt)) w1 S1 hS1 (ho1 (.own 34 2 (iv) ((telsOf p ([] : List Txt))).length (((telsOf p ([] : List Txt))).flatMap telC)) _ (by repeat constructor)).own (okx_one hp) (by rw [under_d', telsOf_l]; omega) (fun x h => by unfold telsOf at h; obtain ⟨s, hs, rfl⟩ := List.mem_map.1 h; exact hnt s hs)
      rintro _ _ rfl
      first | refine WL.app4 ?_ | refine WL.app3 ?_ | refine WL.app2 ?_ | refine WL.app1 ?_ | refine WL.app0 ?_ | skip
      rename_i ov
      rw [pass_late2]
      dsimp only
      have hun := under_d p 2 ([] : List Txt)
      have hun2 : underF [(⟨p, 2, ([] : List Txt), []⟩ : Wr)] ≤ 2147483648 := by omega
      obtain ⟨W, hW⟩ : ∃ W, la = W := ⟨_, rfl⟩
      have hWl : (W.length : Int) ≤ 2097152 := by rw [← hW]; omega
      rw [hW]
      obtain ⟨L, hL⟩ : ∃ L, telsOf p W = L := ⟨_, rfl⟩
      have hLl : L.length = W.length := by rw [← hL, telsOf_l]
      have hLat : ∀ j, j < W.length → L.getD j default = (p, W.getD j []) := fun j hj => by rw [← hL, telsOf_at p W j hj]
      rw [hL]
      repeat first
        | (apply WL.q; exact rfl; exact rfl; exact rfl; (first | (apply EvW.move; exact rfl) | (apply EvW.assign; exact rfl) | (apply EvW.cmpF; exact rfl; exact rfl; exact rfl; omega) | (apply EvW.lenOwn; exact rfl; exact UndC.eq; (focus ((repeat constructor); done)))))
        | refine WC.seq ?_ | refine WC.region ?_ | refine WL.nil ?_ | refine WE.next ?_ | refine WL.wanted rfl rfl rfl ?_
      try refine WL.wanted rfl rfl rfl ?_
      apply WL.callA ([])
      · exact rfl
      · exact rfl
      · exact fun w => Try.call17 _ w
      · (focus ((repeat constructor); done))
      · exact fun w1 S1 hS1 hs1 ho1 => under_spec wb [(⟨p, 2, ([] : List Txt), []⟩ : Wr)] w1 S1 hS1 (ho1 (wiresH wb [(⟨p, 2, ([] : List Txt), []⟩ : Wr)]) _ (by repeat constructor)) (nodup_d _ _ _) hun2
      rintro _ _ ⟨rfl, rfl⟩
      first | refine WL.app4 ?_ | refine WL.app3 ?_ | refine WL.app2 ?_ | refine WL.app1 ?_ | refine WL.app0 ?_ | skip
      rw [hun]
      repeat first
        | (apply WL.q; exact rfl; exact rfl; exact rfl; (first | (apply EvW.move; exact rfl) | (apply EvW.lenL; exact rfl; exact UndC.eq) | (apply EvW.cmp; exact rfl; exact rfl; exact rfl) | (apply EvW.pickF; exact rfl; exact rfl) | (apply EvW.lenOwn; exact rfl; exact UndC.eq; (focus ((repeat constructor); done)))))
        | refine WC.seq ?_ | refine WC.region ?_ | refine WL.nil ?_ | refine WE.next ?_ | refine WC.block ?_ | refine WC.skip ?_ | refine WC.condF rfl ?_ | refine WL.wanted rfl rfl rfl ?_
      refine WC.loopK (σ := Nat) [0, 1, 2, 7, 10, 12, 15, 77, 78] (fun s => [(79, i64 s)]) (fun s => [wiresH wb [(⟨p, 2, ([] : List Txt), []⟩ : Wr)], .own 34 2 (ov) (L).length ((L).flatMap telC), .own 9 1 (wv) (W).length ((W).map str)]) (fun s => s ≤ L.length) (fun s => L.length - s) 0 (by (focus ((repeat (first | exact Pick.nil | (apply Pick.cons; exact rfl))); done))) (by (focus ((repeat (first | exact trivial | (refine ⟨rfl, ?_⟩))); done))) (fun _ h => h.keep (by repeat constructor)) (Nat.zero_le _) (fun s hs => ?_)
      obtain ⟨j, rfl⟩ : ∃ q, q = s := ⟨s, rfl⟩
      simp only [List.cons_append, List.nil_append] at hs ⊢
      by_cases hj : (j : Int) < L.length
      · have hj2 : j < W.length := by omega
        have hl := hLat j hj2
        have hjj : ((j : Nat) : Int).toNat = j := rfl
        repeat first
          | (apply WL.q; exact rfl; exact rfl; exact rfl; (first | (apply EvW.move; exact rfl) | (apply EvW.cmpT; exact rfl; exact rfl; exact rfl; omega) | (apply EvW.idxOwn; exact rfl; exact rfl; exact UndC.eq; exact SzC.eq; (focus ((repeat constructor); done)); omega; omega)))
          | refine WC.seq ?_ | refine WC.region ?_ | refine WL.nil ?_ | refine WE.next ?_ | refine WC.block ?_ | refine WC.skip ?_ | refine WC.condT rfl ?_
        try refine WL.wanted rfl rfl rfl ?_
        (apply WL.q; exact rfl; exact rfl; exact rfl; (apply EvW.ldElemOwn (xs := L) (z := (default : Tel)) (f := telC); exact rfl; exact AggC.eq; exact SzC.eq; exact rfl; exact fun _ => rfl; (focus ((repeat constructor); done)); omega))
        try refine WL.wanted rfl rfl rfl ?_
        (apply WL.alloc; exact rfl; exact ZvC.eq; exact rfl; intro tb)
        rw [hjj, hl]
        repeat first
          | (apply WL.q; exact rfl; exact rfl; exact rfl; (first | (apply EvW.assign; exact rfl)))
          | refine WC.seq ?_ | refine WL.nil ?_ | refine WE.next ?_ | (apply WL.store; exact rfl; exact rfl; (first | assumption | exact rfl); exact SzC.eq; (first | assumption | exact rfl); (focus ((repeat constructor); done)))
        repeat refine WC.seq ?_
        refine WC.keep (xs := [wiresH wb [(⟨p, 2, ([] : List Txt), []⟩ : Wr)], .own 34 2 (ov) (L).length ((L).flatMap telC), .own 9 1 (wv) (W).length ((W).map str), .blk tb #[i64 p, str (W.getD j [])] 34]) (by repeat constructor) ?_
        apply WC.par _ (fun c : Ch => [wiresH wb [(⟨p, 2, ([] : List Txt), []⟩ : Wr)], .own 34 2 (ov) (L).length ((L).flatMap telC), .own 9 1 (wv) (W).length ((W).map str), .blk tb #[i64 p, str (W.getD j [])] 34]) [none, none, none, none] [none, none, none, none] [] Try.mixed
        · (focus ((repeat (first | exact Restr.nil | (apply Restr.keep; exact rfl; exact rfl) | (apply Restr.drop; exact rfl))); done))
        · intro c; exact (by repeat constructor)
        · exact rfl
        · decide +kernel
        · decide +kernel
        · intro c
          (apply Par.quiet _ [true, true, true, true]; exact rfl; decide +kernel; exact rfl; intro R; refine ⟨_, (by repeat constructor), ?_⟩;
               (first | (apply EvW.fieldAddr0; exact rfl; exact FldC.eq)))
          (apply Par.quiet _ [true, true, true, true]; exact rfl; decide +kernel; exact rfl; intro R; refine ⟨_, (by repeat constructor), ?_⟩;
               (first | (apply EvW.load; exact rfl; exact ScalC.eq; (focus ((repeat constructor); done)); exact rfl)))
          (apply Par.quiet _ [true, true, true, true]; exact rfl; decide +kernel; exact rfl; intro R; refine ⟨_, (by repeat constructor), ?_⟩;
               (first | (apply EvW.move; exact rfl)))
          (apply Par.quiet _ [true, true, true, true]; exact rfl; decide +kernel; exact rfl; intro R; refine ⟨_, (by repeat constructor), ?_⟩;
               (first | (apply EvW.cmpF; exact rfl; exact rfl; exact rfl; omega)))
          (apply Par.quiet _ [true, true, true, true]; exact rfl; decide +kernel; exact rfl; intro R; refine ⟨_, (by repeat constructor), ?_⟩;
               (first | (apply EvW.move; exact rfl)))
          first
            | (apply Par.skip; exact rfl; decide +kernel; exact rfl)
            | (apply Par.quiet _ [true, true, true, true]; exact rfl; decide +kernel; exact rfl; intro R; refine ⟨_, (by repeat constructor), ?_⟩;
               (first | (apply EvW.fieldAddr0; exact rfl; exact FldC.eq)))
          first
            | (apply Par.skip; exact rfl; decide +kernel; exact rfl)
            | (apply Par.quiet _ [true, true, true, true]; exact rfl; decide +kernel; exact rfl; intro R; refine ⟨_, (by repeat constructor), ?_⟩;
               (first | (apply EvW.load; exact rfl; exact ScalC.eq; (focus ((repeat constructor); done)); exact rfl)))
          first
            | (apply Par.skip; exact rfl; decide +kernel; exact rfl)
            | (apply Par.quiet _ [true, true, true, true]; exact rfl; decide +kernel; exact rfl; intro R; refine ⟨_, (by repeat constructor), ?_⟩;
               (first | (apply EvW.move; exact rfl)))
          first
            | (apply Par.skip; exact rfl; decide +kernel; exact rfl)
            | (apply Par.quiet _ [true, true, true, true]; exact rfl; decide +kernel; exact rfl; intro R; refine ⟨_, (by repeat constructor), ?_⟩;
               (first | (apply EvW.move; exact rfl)))
          first
            | (apply Par.skip; exact rfl; decide +kernel; exact rfl)
            | (apply Par.quiet _ [true, true, true, true]; exact rfl; decide +kernel; exact rfl; intro R; refine ⟨_, (by repeat constructor), ?_⟩;
               (first | (apply EvW.idxOwn; exact rfl; exact rfl; exact UndC.eq; exact SzC.eq; (focus ((repeat constructor); done)); omega; omega)))
          first
            | (apply Par.skip; exact rfl; decide +kernel; exact rfl)
            | (apply Par.quiet _ [true, true, true, true]; exact rfl; decide +kernel; exact rfl; intro R; refine ⟨_, (by repeat constructor), ?_⟩;
               (first | (apply EvW.ldStrOwn; exact rfl; exact ScalC.eq; (focus ((repeat constructor); done)); omega)))
          first
            | (apply Par.skip; exact rfl; decide +kernel; exact rfl)
            | (apply Par.quiet _ [true, true, true, true]; exact rfl; decide +kernel; exact rfl; intro R; refine ⟨_, (by repeat constructor), ?_⟩;
               (first | (apply EvW.sneS; exact rfl; exact rfl)))
          (apply Par.quiet _ [true, true, true, true]; exact rfl; decide +kernel; exact rfl; intro R; refine ⟨_, (by repeat constructor), ?_⟩;
               (first | (apply EvW.pickF; exact rfl; exact rfl)))
          exact Par.nil
        · repeat (first | exact AllN.nil | (apply AllN.cons; (intro c x; (repeat (first | exact IndA.nil | (apply IndA.skip; decide +kernel) | apply IndA.same))))) 
        · repeat (first | exact AllN.nil | (apply AllN.cons; (intro c x; (repeat (first | exact IndT.nil | (apply IndT.skip; decide +kernel) | apply IndT.same))))) 
        · exact fun _ => rfl
        intro c
        refine ⟨_, (by repeat constructor), ?_⟩
        apply WE.writ
        · (focus ((repeat (first | exact Writ.nil | apply Writ.some | apply Writ.none)); done))
        rw [hjj]
        repeat first
          | (apply WL.q; exact rfl; exact rfl; exact rfl; (first | (apply EvW.move; exact rfl) | (apply EvW.arN; exact rfl; exact rfl; exact rfl; refine i64_in ?_ ?_ <;> omega)))
          | refine WC.region ?_ | refine WL.nil ?_ | refine WE.next ?_ | refine WC.skip ?_ | refine WE.out ?_ | refine WC.condF rfl ?_
        exact WE.again (s := j) ((j + 1)) (by omega) (by (focus ((repeat (first | exact trivial | (refine ⟨rfl, ?_⟩))); done))) (fun _ h => (by (try simp only []); exact h.keep (by repeat constructor))) (by (try simp only []); omega)
      · repeat first
          | (apply WL.q; exact rfl; exact rfl; exact rfl; (first | (apply EvW.move; exact rfl) | (apply EvW.assign; exact rfl) | (apply EvW.cmpF; exact rfl; exact rfl; exact rfl; omega) | (apply EvW.arN; exact rfl; exact rfl; exact rfl; refine i64_in ?_ ?_ <;> omega)))
          | refine WC.seq ?_ | refine WC.region ?_ | refine WL.nil ?_ | refine WE.next ?_ | refine WC.exit ?_ | refine WE.pass ?_ | refine WE.hit ?_ | refine WE.out ?_ | refine WC.condF rfl ?_
        exact WE.again (s := (i, lv, la)) ((i + 1, (Value.slice none 0 0), ([] : List Txt))) ⟨by simp only []; omega, hnow, hnl, hnt⟩ (by (focus ((repeat (first | exact trivial | (refine ⟨rfl, ?_⟩))); done))) (fun _ h => (by (try simp only []); exact h.keep (by repeat constructor))) (by (try simp only []); omega)
end Go.Proofs.Ytoaajdmacngnjaa
namespace Go.Proofs.Ytoaajdmacngnjaa
open Go.ChangeShapes Go.WideShapes Go.ChangeAt Go.RowKit Go.BK
theorem flat_fst (rs : List (Value × List (List UInt8))) : rs.flatMap (fun p => [p.1]) = rs.map (·.1) := by
  induction rs with
  | nil => rfl
  | cons a l ih => rw [List.flatMap_cons, ih]; rfl
theorem rows_small : ∀ {rs : List (Value × List (List UInt8))} {B : Nat}, (rs.map fun p => (p.2.map fun l => l.length + 1).sum + 1).sum ≤ B → rs.length ≤ B ∧ ∀ p ∈ rs, p.2.length ≤ B ∧ ∀ s ∈ p.2, s.length ≤ B := by
  intro rs
  induction rs with
  | nil => intro B _; exact ⟨by simp, fun i h => by cases h⟩
  | cons x r ih =>
    intro B h
    simp only [List.map_cons, List.sum_cons] at h
    obtain ⟨h2, h3⟩ := ih (B := B - ((x.2.map fun l => l.length + 1).sum + 1)) (by omega)
    obtain ⟨h4, h5⟩ := txts_small (xs := x.2) (B := B) (by omega)
    refine ⟨by simp only [List.length_cons]; omega, fun i hi => ?_⟩
    rcases List.mem_cons.1 hi with rfl | hi
    · exact ⟨h4, h5⟩
    · obtain ⟨h6, h7⟩ := h3 i hi
      exact ⟨by omega, fun s hs => by have := h7 s hs; omega⟩
set_option maxRecDepth 100000 in
theorem wiresLate_lifted (os : Os) (started : os.Started) (H : Type) (enc : TypeId × Value → H) (F : Stop.Interp) :
    ReturnsInHanded {} Try.checked os 8 .any ((Rows.OpenSpec.upto Rows.wiresLateSpec).pre6 enc Try.prog Try.f8 Rows.wiresLateUptoRow.domain false) (((Rows.OpenSpec.upto Rows.wiresLateSpec).at F).post enc Try.prog Try.f8 false true false false) := by
  refine law_liftedU (C := Try.checked) (s := Rows.wiresLateSpec) (tb := 4) Try.own started (by kernel_rfl) Try.func8 rfl Try.underlying4 rfl Try.laidOut (by kernel_rfl) (by intro ds h; match ds, h with | [d1, d2, d3], _ => rfl)
    (OpenSpec.witness (enc := enc) (C := Try.checked) (s := Rows.OpenSpec.upto Rows.wiresLateSpec) (k := Rows.uptoSmall) rfl false ⟨#[], #[.int .i64 0, .slice none 0 0, .bool false], []⟩ 8 (by kernel_rfl) (by kernel_rfl) (by kernel_rfl)
      (x := ([.lit (.int .i64 0), .nil, .lit (.bool false)], [], [])) (by kernel_rfl) rfl (by kernel_rfl)) ?_
  intro W base args ds p hval hA0 hk
  have hA : DataW.TrodAll enc Try.prog W 0 (fun _ => true) true Try.f8.params.toList args.toList ds p := hA0
  rw [Try.params8] at hA hval
  clear hA0
  obtain ⟨v0, v1, v2, d0, d1, d2, p0, p1, p2, rfl, rfl, rfl, h0, h1, h2⟩ := trodAll_three hA
  obtain ⟨n, rfl, rfl, rfl, wn⟩ := open_int Try.underlying3 (hval 0 3 v0 rfl rfl) h0
  obtain ⟨rs, hx, hq, hb⟩ := argU_slice (sz := 1) Try.underlying46 (by kernel_rfl) (by decide) (fun _ => rfl) (OpensU.slice (sz := 1) Try.underlying43 (by kernel_rfl) (by decide) (fun _ => rfl) (OpensU.str Try.underlying9)) (hval 1 46 v1 rfl rfl) h1
  simp only [Rows.uptoBulkAll, Rows.uptoBulk] at hk
  obtain ⟨tw, rfl, rfl, rfl⟩ := open_bool Try.underlying4 (hval 2 4 v2 rfl rfl) h2
  obtain ⟨h3, h4⟩ := rows_small (rs := rs) (B := 1048576) (by omega)
  rw [flat_fst] at hx
  have hr : Rows2 rs W (fun _ => False) := by
    have key : ∀ i, i < rs.length → rs.getD i default ∈ rs := fun i hi => by rw [List.getD_eq_getElem?_getD, List.getElem?_eq_getElem hi]; exact List.getElem_mem hi
    refine ⟨fun i hi => ?_, fun i hi => (h4 _ (key i hi)).1, fun i hi s hs => Nat.le_trans ((h4 _ (key i hi)).2 s hs) (by decide)⟩
    have := (hq _ (key i hi)).1
    rw [flat_one] at this
    exact this
  cases tw with
  | true => exact (wiresLate_true n v1 rs W _ (fun _ h => h) wn hx h3 hr).law (fun _ _ h => h)
  | false => exact (wiresLate_false n v1 rs W _ (fun _ h => h) wn hx h3 hr).law (fun _ _ h => h)
theorem wiresLate_holds : Rows.WiresLateUptoSaid :=
  OpenClaim.holds_of_cond 8 Try.f8 rfl rfl rfl rfl rfl rfl rfl ⟨rfl, rfl, rfl, rfl, rfl⟩ rfl rfl rfl rfl rfl (by kernel_rfl) Try.func8 (by kernel_rfl)
    (of_decide_eq_true (by kernel_rfl)) (by unfold Func.isWrapper; first | (rw [if_pos (by decide +kernel)]; kernel_rfl) | (rw [if_neg (by decide +kernel)]; exact ⟨rfl, rfl⟩))
    (fun os started H enc _ F => wiresLate_lifted os started H enc F)
end Go.Proofs.Ytoaajdmacngnjaa
