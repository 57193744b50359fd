/- WiresKeep holds for every input of bulk at most 1048576: where no wire spoils, nothing comes out more than twice, and all that went in is told. Condition: the bulk of the second form. -/
import Derived.DeepKeys4
import Derived.JoinedCond
import Derived.MapKept
import Derived.OpenShut
import Derived.Test.YtoaajdmacngnjaaRows
import Derived.Test.YtoaajdmacngnjaaWiresPfM2
namespace Go.Proofs.Ytoaajdmacngnjaa
open Go.RowKit Go.BK
structure Okx (xs : List Wr) : Prop where
  nodup : (xs.map (·.p)).Nodup
  wf : ∀ q ∈ xs, (Lit.int .i64 q.p).wf = true
  len : xs.length ≤ 1099511627776
theorem kv_keys {zs : Zs} {xs : List Wr} (hz : zs.map (·.1) = xs) : (zs.map kv).map (·.1) = xs.map (·.p) := by
  subst hz; rw [List.map_map, List.map_map]; rfl
theorem outR_step (xs : List Wr) (K : List Int) (i : Nat) (h : i < K.length) : outR xs (K.take (i + 1)) = outR xs (K.take i) ++ telsOf (K.getD i 0) (readyO (getW xs (K.getD i 0))) := by
  have e : K.take (i + 1) = K.take i ++ [K.getD i 0] := by
    rw [List.take_add_one, List.getD_eq_getElem?_getD, List.getElem?_eq_getElem h]; rfl
  rw [e]
  unfold outR
  rw [List.flatMap_append, List.flatMap_singleton]
theorem take_step (K : List Int) (i : Nat) (h : i < K.length) : K.take (i + 1) = K.take i ++ [K.getD i 0] := by
  rw [List.take_add_one, List.getD_eq_getElem?_getD, List.getElem?_eq_getElem h]; rfl
theorem not_taken {K : List Int} (hd : K.Nodup) (i : Nat) (h : i < K.length) : K.getD i 0 ∉ K.take i := by
  have h1 : (K.take (i + 1)).Nodup := hd.sublist (List.take_sublist _ _)
  rw [take_step K i h] at h1
  intro hm
  exact (List.nodup_append.1 h1).2.2 _ hm _ (by simp) rfl
theorem outR_room (xs : List Wr) (hd : (xs.map (·.p)).Nodup) {K : List Int} (hp : K.Perm (xs.map (·.p))) (i : Nat) (h : i < K.length) : (outR xs (K.take i)).length + (readyO (getW xs (K.getD i 0))).length ≤ underF xs := by
  have h1 := outR_sum xs (K.take i)
  have h2 := take_sum (fun p => wSize (getW xs p)) K (i + 1)
  rw [keys_sum xs hd hp, take_step K i h, List.map_append, List.sum_append] at h2
  have h3 := readyO_le (getW xs (K.getD i 0))
  simp only [List.map_cons, List.map_nil, List.sum_cons, List.sum_nil] at h2
  omega
set_option maxHeartbeats 4000000 in
set_option maxRecDepth 8000 in
theorem pass_spec (wb : Nat) (xs : List Wr) (v : Value) (l : List Tel) (w : World) (S : BSet) (hS : (sepL [wiresH wb xs]).sat S w) (hv : Sees w S (.row 2 v l.length (l.flatMap telC))) (hk : Okx xs) (hu : underF xs + l.length ≤ 2147483648) (ht : ∀ t ∈ l, t.2.length ≤ 140737488355328) :
    Tri Try.prog 14 #[ptr wb 0, v] w S fun u A => A = [.own 34 2 (u) ((passF xs l).2).length (((passF xs l).2).flatMap telC), wiresH wb (passF xs l).1] := by
  refine Tri.enter (l := [ptr wb 0, v]) Try.func14 rfl Try.ntmps14 rfl [(0, ptr wb 0), (1, v)] (subA rfl) hS ?_
  refine WC.openW .head fun mb zs hz => ?_
  obtain ⟨K, hK⟩ : ∃ K, sortI (xs.map (·.p)) = K := ⟨_, rfl⟩
  have hKp : K.Perm (xs.map (·.p)) := by rw [← hK]; exact sortI_perm _
  have hKd : K.Nodup := hKp.nodup_iff.2 hk.nodup
  have hkl : K.length = xs.length := by rw [hKp.length_eq, List.length_map]
  have hzl : zs.length = xs.length := by rw [← hz, List.length_map]
  have hklen := hk.len
  have hwf : ∀ p ∈ zs.map kv, (Lit.int .i64 p.1).wf = true := fun p hp => by
    have h1 : p.1 ∈ (zs.map kv).map (·.1) := List.mem_map.2 ⟨p, hp, rfl⟩
    rw [kv_keys hz] at h1
    obtain ⟨q, hq, e⟩ := List.mem_map.1 h1
    rw [← e]; exact hk.wf q hq
  repeat first
    | (apply WL.q; exact rfl; exact rfl; exact rfl; (first | (apply EvW.move; exact rfl) | (apply EvW.assign; exact rfl) | (apply EvW.nilPtr; exact rfl) | (apply EvW.fieldAddr0; exact rfl; exact FldC.eq) | (apply EvW.fieldAddr; exact rfl; exact FldC.eq) | (apply EvW.load; exact rfl; exact ScalC.eq; (focus ((repeat constructor); done)); exact rfl) | (apply EvW.ldSeen; exact rfl; exact ScalC.eq; assumption; (first | exact rfl | assumption)) | (apply EvW.ldFld; exact rfl; exact ScalC.eq; assumption; exact fun _ => rfl; omega; exact rfl; exact inferInstance) | (apply EvW.lenL; exact rfl; exact UndC.eq) | (apply EvW.cmpT; exact rfl; exact rfl; exact rfl; omega) | (apply EvW.cmpF; exact rfl; exact rfl; exact rfl; omega) | (apply EvW.cmp; exact rfl; exact rfl; exact rfl) | (apply EvW.arN; exact rfl; exact rfl; exact rfl; refine i64_in ?_ ?_ <;> omega) | (apply EvW.ar; exact rfl; exact rfl; exact rfl) | (apply EvW.loadAgg; exact rfl; exact AggC.eq; exact SzC.eq; (focus ((repeat constructor); done)); (focus ((repeat (first | exact SubL.nil | apply SubL.cons | apply SubL.succ)); done))) | (apply EvW.makeFunc; exact rfl) | (apply EvW.ldStr; exact rfl; exact ScalC.eq; assumption; omega) | (apply EvW.ldStrOwn; exact rfl; exact ScalC.eq; (focus ((repeat constructor); done)); omega) | (apply EvW.lenRow; exact rfl; exact UndC.eq; assumption) | (apply EvW.lenOwn; exact rfl; exact UndC.eq; (focus ((repeat constructor); done))) | (apply EvW.idxRow; exact rfl; exact rfl; exact UndC.eq; exact SzC.eq; assumption; omega; omega) | (apply EvW.idxOwn; exact rfl; exact rfl; exact UndC.eq; exact SzC.eq; (focus ((repeat constructor); done)); omega; omega) | (apply EvW.ldInt; exact rfl; exact ScalC.eq; assumption; omega) | (apply EvW.ldIntOwn; exact rfl; exact ScalC.eq; (focus ((repeat constructor); done)); omega) | (apply EvW.fldRow; exact rfl; exact FldC.eq; assumption; omega) | (apply EvW.fldOwn; exact rfl; exact FldC.eq; (focus ((repeat constructor); done)); omega) | (apply EvW.nilElemOwn; exact rfl; (focus ((repeat constructor); done)); omega) | (apply EvW.nilElemRow; exact rfl; assumption; omega) | (apply EvW.ldFldOwn; exact rfl; exact ScalC.eq; (focus ((repeat constructor); done)); exact fun _ => rfl; omega; exact rfl; exact inferInstance) | (apply EvW.lookup; exact rfl; exact rfl; exact UndC.eq; exact UndC.eq; exact ZvC.eq; (focus ((repeat constructor); done))) | (apply EvW.lookupOk; exact rfl; exact rfl; exact UndC.eq; exact UndC.eq; exact ZvC.eq; (focus ((repeat constructor); done))) | (apply EvW.lookupT; exact rfl; exact rfl; exact UndC.eq; exact UndC.eq; exact ZvC.eq; (focus ((repeat constructor); done)))))
    | refine WC.seq ?_ | refine WC.region ?_ | refine WL.nil ?_ | refine WE.next ?_ | refine WC.block ?_ | refine WC.skip ?_ | refine WC.exit ?_ | refine WE.pass ?_ | refine WE.hit ?_ | refine WE.miss rfl ?_ | refine WE.out ?_ | refine WC.condT rfl ?_ | refine WC.condF rfl ?_ | refine WC.ret ?_ | refine WE.passRet ?_ | refine WE.outRet ?_ | refine WL.wanted rfl rfl rfl ?_ | (apply WL.store; exact rfl; exact rfl; (first | assumption | exact rfl); exact SzC.eq; (first | assumption | exact rfl); (focus ((repeat constructor); done)))
  try refine WL.wanted rfl rfl rfl ?_
  (apply WL.alloc; exact rfl; exact ZvC.eq; exact rfl; intro ob)
  repeat first
    | (apply WL.q; exact rfl; exact rfl; exact rfl; (first | (apply EvW.move; exact rfl) | (apply EvW.assign; exact rfl) | (apply EvW.nilPtr; exact rfl) | (apply EvW.fieldAddr0; exact rfl; exact FldC.eq) | (apply EvW.fieldAddr; exact rfl; exact FldC.eq) | (apply EvW.load; exact rfl; exact ScalC.eq; (focus ((repeat constructor); done)); exact rfl) | (apply EvW.ldSeen; exact rfl; exact ScalC.eq; assumption; (first | exact rfl | assumption)) | (apply EvW.ldFld; exact rfl; exact ScalC.eq; assumption; exact fun _ => rfl; omega; exact rfl; exact inferInstance) | (apply EvW.lenL; exact rfl; exact UndC.eq) | (apply EvW.cmpT; exact rfl; exact rfl; exact rfl; omega) | (apply EvW.cmpF; exact rfl; exact rfl; exact rfl; omega) | (apply EvW.cmp; exact rfl; exact rfl; exact rfl) | (apply EvW.arN; exact rfl; exact rfl; exact rfl; refine i64_in ?_ ?_ <;> omega) | (apply EvW.ar; exact rfl; exact rfl; exact rfl) | (apply EvW.loadAgg; exact rfl; exact AggC.eq; exact SzC.eq; (focus ((repeat constructor); done)); (focus ((repeat (first | exact SubL.nil | apply SubL.cons | apply SubL.succ)); done))) | (apply EvW.makeFunc; exact rfl) | (apply EvW.ldStr; exact rfl; exact ScalC.eq; assumption; omega) | (apply EvW.ldStrOwn; exact rfl; exact ScalC.eq; (focus ((repeat constructor); done)); omega) | (apply EvW.lenRow; exact rfl; exact UndC.eq; assumption) | (apply EvW.lenOwn; exact rfl; exact UndC.eq; (focus ((repeat constructor); done))) | (apply EvW.idxRow; exact rfl; exact rfl; exact UndC.eq; exact SzC.eq; assumption; omega; omega) | (apply EvW.idxOwn; exact rfl; exact rfl; exact UndC.eq; exact SzC.eq; (focus ((repeat constructor); done)); omega; omega) | (apply EvW.ldInt; exact rfl; exact ScalC.eq; assumption; omega) | (apply EvW.ldIntOwn; exact rfl; exact ScalC.eq; (focus ((repeat constructor); done)); omega) | (apply EvW.fldRow; exact rfl; exact FldC.eq; assumption; omega) | (apply EvW.fldOwn; exact rfl; exact FldC.eq; (focus ((repeat constructor); done)); omega) | (apply EvW.nilElemOwn; exact rfl; (focus ((repeat constructor); done)); omega) | (apply EvW.nilElemRow; exact rfl; assumption; omega) | (apply EvW.ldFldOwn; exact rfl; exact ScalC.eq; (focus ((repeat constructor); done)); exact fun _ => rfl; omega; exact rfl; exact inferInstance) | (apply EvW.lookup; exact rfl; exact rfl; exact UndC.eq; exact UndC.eq; exact ZvC.eq; (focus ((repeat constructor); done))) | (apply EvW.lookupOk; exact rfl; exact rfl; exact UndC.eq; exact UndC.eq; exact ZvC.eq; (focus ((repeat constructor); done))) | (apply EvW.lookupT; exact rfl; exact rfl; exact UndC.eq; exact UndC.eq; exact ZvC.eq; (focus ((repeat constructor); done)))))
    | refine WC.seq ?_ | refine WC.region ?_ | refine WL.nil ?_ | refine WE.next ?_ | refine WC.block ?_ | refine WC.skip ?_ | refine WC.exit ?_ | refine WE.pass ?_ | refine WE.hit ?_ | refine WE.miss rfl ?_ | refine WE.out ?_ | refine WC.condT rfl ?_ | refine WC.condF rfl ?_ | refine WC.ret ?_ | refine WE.passRet ?_ | refine WE.outRet ?_ | refine WL.wanted rfl rfl rfl ?_ | (apply WL.store; exact rfl; exact rfl; (first | assumption | exact rfl); exact SzC.eq; (first | assumption | exact rfl); (focus ((repeat constructor); done)))
  try refine WL.wanted rfl rfl rfl ?_
  apply WL.callA ([])
  · exact rfl
  · exact rfl
  · exact fun w => Try.call22 _ w
  · (focus ((repeat constructor); done))
  · exact fun w1 S1 hS1 hs1 ho1 => maps_keys mb w1 S1
  rintro _ _ ⟨lb, rfl, rfl⟩
  first | refine WL.app4 ?_ | refine WL.app3 ?_ | refine WL.app2 ?_ | refine WL.app1 ?_ | refine WL.app0 ?_ | skip
  repeat first
    | (apply WL.q; exact rfl; exact rfl; exact rfl; (first | (apply EvW.move; exact rfl) | (apply EvW.assign; exact rfl) | (apply EvW.nilPtr; exact rfl) | (apply EvW.fieldAddr0; exact rfl; exact FldC.eq) | (apply EvW.fieldAddr; exact rfl; exact FldC.eq) | (apply EvW.load; exact rfl; exact ScalC.eq; (focus ((repeat constructor); done)); exact rfl) | (apply EvW.ldSeen; exact rfl; exact ScalC.eq; assumption; (first | exact rfl | assumption)) | (apply EvW.ldFld; exact rfl; exact ScalC.eq; assumption; exact fun _ => rfl; omega; exact rfl; exact inferInstance) | (apply EvW.lenL; exact rfl; exact UndC.eq) | (apply EvW.cmpT; exact rfl; exact rfl; exact rfl; omega) | (apply EvW.cmpF; exact rfl; exact rfl; exact rfl; omega) | (apply EvW.cmp; exact rfl; exact rfl; exact rfl) | (apply EvW.arN; exact rfl; exact rfl; exact rfl; refine i64_in ?_ ?_ <;> omega) | (apply EvW.ar; exact rfl; exact rfl; exact rfl) | (apply EvW.loadAgg; exact rfl; exact AggC.eq; exact SzC.eq; (focus ((repeat constructor); done)); (focus ((repeat (first | exact SubL.nil | apply SubL.cons | apply SubL.succ)); done))) | (apply EvW.makeFunc; exact rfl) | (apply EvW.ldStr; exact rfl; exact ScalC.eq; assumption; omega) | (apply EvW.ldStrOwn; exact rfl; exact ScalC.eq; (focus ((repeat constructor); done)); omega) | (apply EvW.lenRow; exact rfl; exact UndC.eq; assumption) | (apply EvW.lenOwn; exact rfl; exact UndC.eq; (focus ((repeat constructor); done))) | (apply EvW.idxRow; exact rfl; exact rfl; exact UndC.eq; exact SzC.eq; assumption; omega; omega) | (apply EvW.idxOwn; exact rfl; exact rfl; exact UndC.eq; exact SzC.eq; (focus ((repeat constructor); done)); omega; omega) | (apply EvW.ldInt; exact rfl; exact ScalC.eq; assumption; omega) | (apply EvW.ldIntOwn; exact rfl; exact ScalC.eq; (focus ((repeat constructor); done)); omega) | (apply EvW.fldRow; exact rfl; exact FldC.eq; assumption; omega) | (apply EvW.fldOwn; exact rfl; exact FldC.eq; (focus ((repeat constructor); done)); omega) | (apply EvW.nilElemOwn; exact rfl; (focus ((repeat constructor); done)); omega) | (apply EvW.nilElemRow; exact rfl; assumption; omega) | (apply EvW.ldFldOwn; exact rfl; exact ScalC.eq; (focus ((repeat constructor); done)); exact fun _ => rfl; omega; exact rfl; exact inferInstance) | (apply EvW.lookup; exact rfl; exact rfl; exact UndC.eq; exact UndC.eq; exact ZvC.eq; (focus ((repeat constructor); done))) | (apply EvW.lookupOk; exact rfl; exact rfl; exact UndC.eq; exact UndC.eq; exact ZvC.eq; (focus ((repeat constructor); done))) | (apply EvW.lookupT; exact rfl; exact rfl; exact UndC.eq; exact UndC.eq; exact ZvC.eq; (focus ((repeat constructor); done)))))
    | refine WC.seq ?_ | refine WC.region ?_ | refine WL.nil ?_ | refine WE.next ?_ | refine WC.block ?_ | refine WC.skip ?_ | refine WC.exit ?_ | refine WE.pass ?_ | refine WE.hit ?_ | refine WE.miss rfl ?_ | refine WE.out ?_ | refine WC.condT rfl ?_ | refine WC.condF rfl ?_ | refine WC.ret ?_ | refine WE.passRet ?_ | refine WE.outRet ?_ | refine WL.wanted rfl rfl rfl ?_ | (apply WL.store; exact rfl; exact rfl; (first | assumption | exact rfl); exact SzC.eq; (first | assumption | exact rfl); (focus ((repeat constructor); done)))
  try refine WL.wanted rfl rfl rfl ?_
  apply WL.callA ([])
  · exact rfl
  · exact rfl
  · exact fun w => Try.call21 _ w
  · (focus ((repeat constructor); done))
  · exact fun w1 S1 hS1 hs1 ho1 => slices_sorted lb mb (zs.map kv) w1 S1 (ho1 (.blk lb [.map (some mb)].toArray 48) _ (by repeat constructor)) (ho1 (.tmap mb ((zs).map kv)) _ (by repeat constructor)) hwf (by rw [List.length_map]; omega)
  rintro _ _ rfl
  first | refine WL.app4 ?_ | refine WL.app3 ?_ | refine WL.app2 ?_ | refine WL.app1 ?_ | refine WL.app0 ?_ | skip
  rename_i ks
  rw [kv_keys hz, hK]
  refine WL.conv (fun _ hs => St.shutOut (v := (.slice none 0 0)) (o := []) (by repeat constructor) (hs.ownNil (e := 34) (sz := 2))) ?_
  refine WL.keep (xs := [.blk wb #[.map (some mb)] 50, .tmap mb ((zs).map kv), sepL (((zsR zs (K.take 0))).map wz), .own 3 1 ks K.length (K.map i64), outH ob (outR xs (K.take 0))]) (by rw [List.take_zero, zsR_nil, show outR xs [] = [] from rfl]; (focus ((repeat constructor); done))) ?_
  repeat first
    | (apply WL.q; exact rfl; exact rfl; exact rfl; (first | (apply EvW.move; exact rfl) | (apply EvW.assign; exact rfl) | (apply EvW.nilPtr; exact rfl) | (apply EvW.fieldAddr0; exact rfl; exact FldC.eq) | (apply EvW.fieldAddr; exact rfl; exact FldC.eq) | (apply EvW.load; exact rfl; exact ScalC.eq; (focus ((repeat constructor); done)); exact rfl) | (apply EvW.ldSeen; exact rfl; exact ScalC.eq; assumption; (first | exact rfl | assumption)) | (apply EvW.ldFld; exact rfl; exact ScalC.eq; assumption; exact fun _ => rfl; omega; exact rfl; exact inferInstance) | (apply EvW.lenL; exact rfl; exact UndC.eq) | (apply EvW.cmpT; exact rfl; exact rfl; exact rfl; omega) | (apply EvW.cmpF; exact rfl; exact rfl; exact rfl; omega) | (apply EvW.cmp; exact rfl; exact rfl; exact rfl) | (apply EvW.arN; exact rfl; exact rfl; exact rfl; refine i64_in ?_ ?_ <;> omega) | (apply EvW.ar; exact rfl; exact rfl; exact rfl) | (apply EvW.loadAgg; exact rfl; exact AggC.eq; exact SzC.eq; (focus ((repeat constructor); done)); (focus ((repeat (first | exact SubL.nil | apply SubL.cons | apply SubL.succ)); done))) | (apply EvW.makeFunc; exact rfl) | (apply EvW.ldStr; exact rfl; exact ScalC.eq; assumption; omega) | (apply EvW.ldStrOwn; exact rfl; exact ScalC.eq; (focus ((repeat constructor); done)); omega) | (apply EvW.lenRow; exact rfl; exact UndC.eq; assumption) | (apply EvW.lenOwn; exact rfl; exact UndC.eq; (focus ((repeat constructor); done))) | (apply EvW.idxRow; exact rfl; exact rfl; exact UndC.eq; exact SzC.eq; assumption; omega; omega) | (apply EvW.idxOwn; exact rfl; exact rfl; exact UndC.eq; exact SzC.eq; (focus ((repeat constructor); done)); omega; omega) | (apply EvW.ldInt; exact rfl; exact ScalC.eq; assumption; omega) | (apply EvW.ldIntOwn; exact rfl; exact ScalC.eq; (focus ((repeat constructor); done)); omega) | (apply EvW.fldRow; exact rfl; exact FldC.eq; assumption; omega) | (apply EvW.fldOwn; exact rfl; exact FldC.eq; (focus ((repeat constructor); done)); omega) | (apply EvW.nilElemOwn; exact rfl; (focus ((repeat constructor); done)); omega) | (apply EvW.nilElemRow; exact rfl; assumption; omega) | (apply EvW.ldFldOwn; exact rfl; exact ScalC.eq; (focus ((repeat constructor); done)); exact fun _ => rfl; omega; exact rfl; exact inferInstance) | (apply EvW.lookup; exact rfl; exact rfl; exact UndC.eq; exact UndC.eq; exact ZvC.eq; (focus ((repeat constructor); done))) | (apply EvW.lookupOk; exact rfl; exact rfl; exact UndC.eq; exact UndC.eq; exact ZvC.eq; (focus ((repeat constructor); done))) | (apply EvW.lookupT; exact rfl; exact rfl; exact UndC.eq; exact UndC.eq; exact ZvC.eq; (focus ((repeat constructor); done)))))
    | refine WC.seq ?_ | refine WC.region ?_ | refine WL.nil ?_ | refine WE.next ?_ | refine WC.block ?_ | refine WC.skip ?_ | refine WC.exit ?_ | refine WE.pass ?_ | refine WE.hit ?_ | refine WE.miss rfl ?_ | refine WE.out ?_ | refine WC.condT rfl ?_ | refine WC.condF rfl ?_ | refine WC.ret ?_ | refine WE.passRet ?_ | refine WE.outRet ?_ | refine WL.wanted rfl rfl rfl ?_ | (apply WL.store; exact rfl; exact rfl; (first | assumption | exact rfl); exact SzC.eq; (first | assumption | exact rfl); (focus ((repeat constructor); done)))
  refine WC.loopK (σ := Nat) [0, 1, 5, 6, 17, 18] (fun s => [(19, i64 s)]) (fun s => [.blk wb #[.map (some mb)] 50, .tmap mb ((zs).map kv), sepL (((zsR zs (K.take s))).map wz), .own 3 1 ks K.length (K.map i64), outH ob (outR xs (K.take s))]) (fun s => s ≤ K.length) (fun s => K.length - s) 0 (by (focus ((repeat (first | exact Pick.nil | (apply Pick.cons; exact rfl))); done))) (by (focus ((repeat (first | exact trivial | (refine ⟨rfl, ?_⟩))); done))) (fun _ h => h.keep (by repeat constructor)) (Nat.zero_le _) (fun s hs => ?_)
  obtain ⟨i, rfl⟩ : ∃ q, q = s := ⟨s, rfl⟩
  simp only [List.cons_append, List.nil_append] at hs ⊢
  by_cases hlt : (i : Int) < K.length
  · have hi : i < K.length := by omega
    obtain ⟨p, hp⟩ : ∃ p, K.getD i 0 = p := ⟨_, rfl⟩
    have hp2 : K.getD ((i : Nat) : Int).toNat 0 = p := hp
    have hpm : p ∈ xs.map (·.p) := by
      rw [← hKp.mem_iff, ← hp, List.getD_eq_getElem?_getD, List.getElem?_eq_getElem hi]; exact List.getElem_mem hi
    have hnt : p ∉ K.take i := by rw [← hp]; exact not_taken hKd i hi
    obtain ⟨hj, hjp⟩ := ixW_mem xs p hpm
    have hjz : ixW xs p < zs.length := by omega
    have hget : mget p (zs.map kv) = some (ptr (zs.getD (ixW xs p) default).2 0) := by rw [mget_kv, hz, if_pos hjz]
    have hq1 : (zs.getD (ixW xs p) default).1 = getW xs p := by
      unfold getW
      rw [← map_getD (·.1) zs _ hjz, hz]
    have hzj : (zsR zs (K.take i)).getD (ixW xs p) default = zs.getD (ixW xs p) default := by
      rw [zsR_at zs _ _ hjz, if_neg (by rw [hq1, hjp]; exact hnt)]
    have hset := zsR_set zs (K.take i) p (by rw [hz]; exact hk.nodup) (by rw [hz]; exact hpm)
    rw [hz, show K.take i ++ [p] = K.take (i + 1) from by rw [take_step K i hi, hp]] at hset
    have hsz : wSize (getW xs p) ≤ underF xs := sum_at xs _
    have hrm := outR_room xs hk.nodup hKp i hi
    have hst := outR_step xs K i hi
    rw [hp] at hrm hst
    have hzl2 := zsR_len zs (K.take i)
    repeat first
      | (apply WL.q; exact rfl; exact rfl; exact rfl; (first | (apply EvW.move; exact rfl) | (apply EvW.assign; exact rfl) | (apply EvW.nilPtr; exact rfl) | (apply EvW.fieldAddr0; exact rfl; exact FldC.eq) | (apply EvW.fieldAddr; exact rfl; exact FldC.eq) | (apply EvW.load; exact rfl; exact ScalC.eq; (focus ((repeat constructor); done)); exact rfl) | (apply EvW.ldSeen; exact rfl; exact ScalC.eq; assumption; (first | exact rfl | assumption)) | (apply EvW.ldFld; exact rfl; exact ScalC.eq; assumption; exact fun _ => rfl; omega; exact rfl; exact inferInstance) | (apply EvW.lenL; exact rfl; exact UndC.eq) | (apply EvW.cmpT; exact rfl; exact rfl; exact rfl; omega) | (apply EvW.cmpF; exact rfl; exact rfl; exact rfl; omega) | (apply EvW.cmp; exact rfl; exact rfl; exact rfl) | (apply EvW.arN; exact rfl; exact rfl; exact rfl; refine i64_in ?_ ?_ <;> omega) | (apply EvW.ar; exact rfl; exact rfl; exact rfl) | (apply EvW.loadAgg; exact rfl; exact AggC.eq; exact SzC.eq; (focus ((repeat constructor); done)); (focus ((repeat (first | exact SubL.nil | apply SubL.cons | apply SubL.succ)); done))) | (apply EvW.makeFunc; exact rfl) | (apply EvW.ldStr; exact rfl; exact ScalC.eq; assumption; omega) | (apply EvW.ldStrOwn; exact rfl; exact ScalC.eq; (focus ((repeat constructor); done)); omega) | (apply EvW.lenRow; exact rfl; exact UndC.eq; assumption) | (apply EvW.lenOwn; exact rfl; exact UndC.eq; (focus ((repeat constructor); done))) | (apply EvW.idxRow; exact rfl; exact rfl; exact UndC.eq; exact SzC.eq; assumption; omega; omega) | (apply EvW.idxOwn; exact rfl; exact rfl; exact UndC.eq; exact SzC.eq; (focus ((repeat constructor); done)); omega; omega) | (apply EvW.ldInt; exact rfl; exact ScalC.eq; assumption; omega) | (apply EvW.ldIntOwn; exact rfl; exact ScalC.eq; (focus ((repeat constructor); done)); omega) | (apply EvW.fldRow; exact rfl; exact FldC.eq; assumption; omega) | (apply EvW.fldOwn; exact rfl; exact FldC.eq; (focus ((repeat constructor); done)); omega) | (apply EvW.nilElemOwn; exact rfl; (focus ((repeat constructor); done)); omega) | (apply EvW.nilElemRow; exact rfl; assumption; omega) | (apply EvW.ldFldOwn; exact rfl; exact ScalC.eq; (focus ((repeat constructor); done)); exact fun _ => rfl; omega; exact rfl; exact inferInstance) | (apply EvW.lookup; exact rfl; exact rfl; exact UndC.eq; exact UndC.eq; exact ZvC.eq; (focus ((repeat constructor); done))) | (apply EvW.lookupOk; exact rfl; exact rfl; exact UndC.eq; exact UndC.eq; exact ZvC.eq; (focus ((repeat constructor); done))) | (apply EvW.lookupT; exact rfl; exact rfl; exact UndC.eq; exact UndC.eq; exact ZvC.eq; (focus ((repeat constructor); done)))))
      | refine WC.seq ?_ | refine WC.region ?_ | refine WL.nil ?_ | refine WE.next ?_ | refine WC.block ?_ | refine WC.skip ?_ | refine WC.exit ?_ | refine WE.pass ?_ | refine WE.hit ?_ | refine WE.miss rfl ?_ | refine WE.out ?_ | refine WC.condT rfl ?_ | refine WC.condF rfl ?_ | refine WC.ret ?_ | refine WE.passRet ?_ | refine WE.outRet ?_ | refine WL.wanted rfl rfl rfl ?_ | (apply WL.store; exact rfl; exact rfl; (first | assumption | exact rfl); exact SzC.eq; (first | assumption | exact rfl); (focus ((repeat constructor); done)))
    rw [hp2, hget]
    dsimp only [Option.getD_some]
    try refine WL.wanted rfl rfl rfl ?_
    apply WL.callA ([sepL (((zsR zs (K.take i))).map wz)])
    · exact rfl
    · exact rfl
    · exact fun w => Try.call23 _ w
    · (focus ((repeat constructor); done))
    · exact fun w1 S1 hS1 hs1 ho1 => (by have h := ready_all (zsR zs (K.take i)) (ixW xs p) w1 S1 hS1 (by omega) (by rw [hzj, hq1]; omega); rw [hzj, hset, hq1] at h; exact h)
    rintro _ _ rfl
    first | refine WL.app4 ?_ | refine WL.app3 ?_ | refine WL.app2 ?_ | refine WL.app1 ?_ | refine WL.app0 ?_ | skip
    rename_i vr
    try refine WL.wanted rfl rfl rfl ?_
    apply WL.callV ([outH ob (outR xs (K.take i))])
    · exact rfl
    · exact rfl
    · exact rfl
    · exact fun w => Try.call20 _ w
    · (focus ((repeat constructor); done))
    · exact fun w1 S1 hS1 hs1 ho1 => add_spec ob (outR xs (K.take i)) p vr (readyO (getW xs p)) w1 S1 hS1 (ho1 (.own 9 1 (vr) (readyO (getW xs p)).length ((readyO (getW xs p)).map str)) _ (by repeat constructor)).own (by omega)
    rintro _ _ ⟨rfl, rfl⟩
    first | refine WL.app4 ?_ | refine WL.app3 ?_ | refine WL.app2 ?_ | refine WL.app1 ?_ | refine WL.app0 ?_ | skip
    rw [← hst]
    repeat first
      | (apply WL.q; exact rfl; exact rfl; exact rfl; (first | (apply EvW.move; exact rfl) | (apply EvW.assign; exact rfl) | (apply EvW.nilPtr; exact rfl) | (apply EvW.fieldAddr0; exact rfl; exact FldC.eq) | (apply EvW.fieldAddr; exact rfl; exact FldC.eq) | (apply EvW.load; exact rfl; exact ScalC.eq; (focus ((repeat constructor); done)); exact rfl) | (apply EvW.ldSeen; exact rfl; exact ScalC.eq; assumption; (first | exact rfl | assumption)) | (apply EvW.ldFld; exact rfl; exact ScalC.eq; assumption; exact fun _ => rfl; omega; exact rfl; exact inferInstance) | (apply EvW.lenL; exact rfl; exact UndC.eq) | (apply EvW.cmpT; exact rfl; exact rfl; exact rfl; omega) | (apply EvW.cmpF; exact rfl; exact rfl; exact rfl; omega) | (apply EvW.cmp; exact rfl; exact rfl; exact rfl) | (apply EvW.arN; exact rfl; exact rfl; exact rfl; refine i64_in ?_ ?_ <;> omega) | (apply EvW.ar; exact rfl; exact rfl; exact rfl) | (apply EvW.loadAgg; exact rfl; exact AggC.eq; exact SzC.eq; (focus ((repeat constructor); done)); (focus ((repeat (first | exact SubL.nil | apply SubL.cons | apply SubL.succ)); done))) | (apply EvW.makeFunc; exact rfl) | (apply EvW.ldStr; exact rfl; exact ScalC.eq; assumption; omega) | (apply EvW.ldStrOwn; exact rfl; exact ScalC.eq; (focus ((repeat constructor); done)); omega) | (apply EvW.lenRow; exact rfl; exact UndC.eq; assumption) | (apply EvW.lenOwn; exact rfl; exact UndC.eq; (focus ((repeat constructor); done))) | (apply EvW.idxRow; exact rfl; exact rfl; exact UndC.eq; exact SzC.eq; assumption; omega; omega) | (apply EvW.idxOwn; exact rfl; exact rfl; exact UndC.eq; exact SzC.eq; (focus ((repeat constructor); done)); omega; omega) | (apply EvW.ldInt; exact rfl; exact ScalC.eq; assumption; omega) | (apply EvW.ldIntOwn; exact rfl; exact ScalC.eq; (focus ((repeat constructor); done)); omega) | (apply EvW.fldRow; exact rfl; exact FldC.eq; assumption; omega) | (apply EvW.fldOwn; exact rfl; exact FldC.eq; (focus ((repeat constructor); done)); omega) | (apply EvW.nilElemOwn; exact rfl; (focus ((repeat constructor); done)); omega) | (apply EvW.nilElemRow; exact rfl; assumption; omega) | (apply EvW.ldFldOwn; exact rfl; exact ScalC.eq; (focus ((repeat constructor); done)); exact fun _ => rfl; omega; exact rfl; exact inferInstance) | (apply EvW.lookup; exact rfl; exact rfl; exact UndC.eq; exact UndC.eq; exact ZvC.eq; (focus ((repeat constructor); done))) | (apply EvW.lookupOk; exact rfl; exact rfl; exact UndC.eq; exact UndC.eq; exact ZvC.eq; (focus ((repeat constructor); done))) | (apply EvW.lookupT; exact rfl; exact rfl; exact UndC.eq; exact UndC.eq; exact ZvC.eq; (focus ((repeat constructor); done)))))
      | refine WC.seq ?_ | refine WC.region ?_ | refine WL.nil ?_ | refine WE.next ?_ | refine WC.block ?_ | refine WC.skip ?_ | refine WC.exit ?_ | refine WE.pass ?_ | refine WE.hit ?_ | refine WE.miss rfl ?_ | refine WE.out ?_ | refine WC.condT rfl ?_ | refine WC.condF rfl ?_ | refine WC.ret ?_ | refine WE.passRet ?_ | refine WE.outRet ?_ | refine WL.wanted rfl rfl rfl ?_ | (apply WL.store; exact rfl; exact rfl; (first | assumption | exact rfl); exact SzC.eq; (first | assumption | exact rfl); (focus ((repeat constructor); done)))
    exact WE.again (s := i) ((i + 1)) (by omega) (by (focus ((repeat (first | exact trivial | (refine ⟨rfl, ?_⟩))); done))) (fun _ h => (by (try simp only []); exact h.keep (by repeat constructor))) (by (try simp only []); omega)
  obtain rfl : i = K.length := by omega
  rw [List.take_length]
  have hz1 : (zsR zs K).map (·.1) = xs.map readyW := by
    rw [zsR_all zs K (fun z hz' => by
      rw [hKp.mem_iff, ← hz, List.map_map]
      exact List.mem_map.2 ⟨z, hz', rfl⟩), hz]
  have hkv := zsR_kv zs K
  generalize zsR zs K = z1 at hz1 hkv
  rw [← hkv]
  have h0 : passF xs (l.take 0) = (xs.map readyW, outR xs K) := by unfold passF; rw [List.take_zero, hK]; rfl
  refine WC.keep (xs := [.blk wb #[.map (some mb)] 50, .tmap mb ((z1).map kv), sepL ((z1).map wz), outH ob (passF xs (l.take 0)).2]) (by rw [h0]; (focus ((repeat constructor); done))) ?_
  repeat first
    | (apply WL.q; exact rfl; exact rfl; exact rfl; (first | (apply EvW.move; exact rfl) | (apply EvW.assign; exact rfl) | (apply EvW.nilPtr; exact rfl) | (apply EvW.fieldAddr0; exact rfl; exact FldC.eq) | (apply EvW.fieldAddr; exact rfl; exact FldC.eq) | (apply EvW.load; exact rfl; exact ScalC.eq; (focus ((repeat constructor); done)); exact rfl) | (apply EvW.ldSeen; exact rfl; exact ScalC.eq; assumption; (first | exact rfl | assumption)) | (apply EvW.ldFld; exact rfl; exact ScalC.eq; assumption; exact fun _ => rfl; omega; exact rfl; exact inferInstance) | (apply EvW.lenL; exact rfl; exact UndC.eq) | (apply EvW.cmpT; exact rfl; exact rfl; exact rfl; omega) | (apply EvW.cmpF; exact rfl; exact rfl; exact rfl; omega) | (apply EvW.cmp; exact rfl; exact rfl; exact rfl) | (apply EvW.arN; exact rfl; exact rfl; exact rfl; refine i64_in ?_ ?_ <;> omega) | (apply EvW.ar; exact rfl; exact rfl; exact rfl) | (apply EvW.loadAgg; exact rfl; exact AggC.eq; exact SzC.eq; (focus ((repeat constructor); done)); (focus ((repeat (first | exact SubL.nil | apply SubL.cons | apply SubL.succ)); done))) | (apply EvW.makeFunc; exact rfl) | (apply EvW.ldStr; exact rfl; exact ScalC.eq; assumption; omega) | (apply EvW.ldStrOwn; exact rfl; exact ScalC.eq; (focus ((repeat constructor); done)); omega) | (apply EvW.lenRow; exact rfl; exact UndC.eq; assumption) | (apply EvW.lenOwn; exact rfl; exact UndC.eq; (focus ((repeat constructor); done))) | (apply EvW.idxRow; exact rfl; exact rfl; exact UndC.eq; exact SzC.eq; assumption; omega; omega) | (apply EvW.idxOwn; exact rfl; exact rfl; exact UndC.eq; exact SzC.eq; (focus ((repeat constructor); done)); omega; omega) | (apply EvW.ldInt; exact rfl; exact ScalC.eq; assumption; omega) | (apply EvW.ldIntOwn; exact rfl; exact ScalC.eq; (focus ((repeat constructor); done)); omega) | (apply EvW.fldRow; exact rfl; exact FldC.eq; assumption; omega) | (apply EvW.fldOwn; exact rfl; exact FldC.eq; (focus ((repeat constructor); done)); omega) | (apply EvW.nilElemOwn; exact rfl; (focus ((repeat constructor); done)); omega) | (apply EvW.nilElemRow; exact rfl; assumption; omega) | (apply EvW.ldFldOwn; exact rfl; exact ScalC.eq; (focus ((repeat constructor); done)); exact fun _ => rfl; omega; exact rfl; exact inferInstance) | (apply EvW.lookup; exact rfl; exact rfl; exact UndC.eq; exact UndC.eq; exact ZvC.eq; (focus ((repeat constructor); done))) | (apply EvW.lookupOk; exact rfl; exact rfl; exact UndC.eq; exact UndC.eq; exact ZvC.eq; (focus ((repeat constructor); done))) | (apply EvW.lookupT; exact rfl; exact rfl; exact UndC.eq; exact UndC.eq; exact ZvC.eq; (focus ((repeat constructor); done)))))
    | refine WC.seq ?_ | refine WC.region ?_ | refine WL.nil ?_ | refine WE.next ?_ | refine WC.block ?_ | refine WC.skip ?_ | refine WC.exit ?_ | refine WE.pass ?_ | refine WE.hit ?_ | refine WE.miss rfl ?_ | refine WE.out ?_ | refine WC.condT rfl ?_ | refine WC.condF rfl ?_ | refine WC.ret ?_ | refine WE.passRet ?_ | refine WE.outRet ?_ | refine WL.wanted rfl rfl rfl ?_ | (apply WL.store; exact rfl; exact rfl; (first | assumption | exact rfl); exact SzC.eq; (first | assumption | exact rfl); (focus ((repeat constructor); done)))
  refine WC.loopK (σ := Nat × Zs) [0, 5, 6, 34, 35] (fun s => [(36, i64 s.1)]) (fun s => [.blk wb #[.map (some mb)] 50, .tmap mb ((s.2).map kv), sepL ((s.2).map wz), outH ob (passF xs (l.take s.1)).2]) (fun s => s.1 ≤ l.length ∧ s.2.map (·.1) = (passF xs (l.take s.1)).1) (fun s => l.length - s.1) (0, z1) (by (focus ((repeat (first | exact Pick.nil | (apply Pick.cons; exact rfl))); done))) (by (focus ((repeat (first | exact trivial | (refine ⟨rfl, ?_⟩))); done))) (fun _ h => h.keep (by repeat constructor)) ⟨Nat.zero_le _, by rw [h0]; exact hz1⟩ (fun s hs => ?_)
  obtain ⟨i, zz⟩ := s
  simp only [List.cons_append, List.nil_append] at hs ⊢
  obtain ⟨hi0, hzz⟩ := hs
  by_cases hlt2 : (i : Int) < l.length
  · have hi : i < l.length := by omega
    have hbd := pass_bd xs (l.take i) hk.nodup
    have hstep := pass_take xs l i hi
    have htl : (l.getD i default).2.length ≤ 140737488355328 := ht _ (by rw [List.getD_eq_getElem?_getD, List.getElem?_eq_getElem hi]; exact List.getElem_mem hi)
    rw [List.length_take] at hbd
    obtain ⟨sv, hsv⟩ : ∃ sv, passF xs (l.take i) = sv := ⟨_, rfl⟩
    rw [hsv] at hzz hbd hstep ⊢
    repeat first
      | (apply WL.q; exact rfl; exact rfl; exact rfl; (first | (apply EvW.move; exact rfl) | (apply EvW.assign; exact rfl) | (apply EvW.nilPtr; exact rfl) | (apply EvW.fieldAddr0; exact rfl; exact FldC.eq) | (apply EvW.fieldAddr; exact rfl; exact FldC.eq) | (apply EvW.load; exact rfl; exact ScalC.eq; (focus ((repeat constructor); done)); exact rfl) | (apply EvW.ldSeen; exact rfl; exact ScalC.eq; assumption; (first | exact rfl | assumption)) | (apply EvW.ldFld; exact rfl; exact ScalC.eq; assumption; exact fun _ => rfl; omega; exact rfl; exact inferInstance) | (apply EvW.lenL; exact rfl; exact UndC.eq) | (apply EvW.cmpT; exact rfl; exact rfl; exact rfl; omega) | (apply EvW.cmpF; exact rfl; exact rfl; exact rfl; omega) | (apply EvW.cmp; exact rfl; exact rfl; exact rfl) | (apply EvW.arN; exact rfl; exact rfl; exact rfl; refine i64_in ?_ ?_ <;> omega) | (apply EvW.ar; exact rfl; exact rfl; exact rfl) | (apply EvW.loadAgg; exact rfl; exact AggC.eq; exact SzC.eq; (focus ((repeat constructor); done)); (focus ((repeat (first | exact SubL.nil | apply SubL.cons | apply SubL.succ)); done))) | (apply EvW.makeFunc; exact rfl) | (apply EvW.ldStr; exact rfl; exact ScalC.eq; assumption; omega) | (apply EvW.ldStrOwn; exact rfl; exact ScalC.eq; (focus ((repeat constructor); done)); omega) | (apply EvW.lenRow; exact rfl; exact UndC.eq; assumption) | (apply EvW.lenOwn; exact rfl; exact UndC.eq; (focus ((repeat constructor); done))) | (apply EvW.idxRow; exact rfl; exact rfl; exact UndC.eq; exact SzC.eq; assumption; omega; omega) | (apply EvW.idxOwn; exact rfl; exact rfl; exact UndC.eq; exact SzC.eq; (focus ((repeat constructor); done)); omega; omega) | (apply EvW.ldInt; exact rfl; exact ScalC.eq; assumption; omega) | (apply EvW.ldIntOwn; exact rfl; exact ScalC.eq; (focus ((repeat constructor); done)); omega) | (apply EvW.fldRow; exact rfl; exact FldC.eq; assumption; omega) | (apply EvW.fldOwn; exact rfl; exact FldC.eq; (focus ((repeat constructor); done)); omega) | (apply EvW.nilElemOwn; exact rfl; (focus ((repeat constructor); done)); omega) | (apply EvW.nilElemRow; exact rfl; assumption; omega) | (apply EvW.ldFldOwn; exact rfl; exact ScalC.eq; (focus ((repeat constructor); done)); exact fun _ => rfl; omega; exact rfl; exact inferInstance) | (apply EvW.lookup; exact rfl; exact rfl; exact UndC.eq; exact UndC.eq; exact ZvC.eq; (focus ((repeat constructor); done))) | (apply EvW.lookupOk; exact rfl; exact rfl; exact UndC.eq; exact UndC.eq; exact ZvC.eq; (focus ((repeat constructor); done))) | (apply EvW.lookupT; exact rfl; exact rfl; exact UndC.eq; exact UndC.eq; exact ZvC.eq; (focus ((repeat constructor); done)))))
      | refine WC.seq ?_ | refine WC.region ?_ | refine WL.nil ?_ | refine WE.next ?_ | refine WC.block ?_ | refine WC.skip ?_ | refine WC.exit ?_ | refine WE.pass ?_ | refine WE.hit ?_ | refine WE.miss rfl ?_ | refine WE.out ?_ | refine WC.condT rfl ?_ | refine WC.condF rfl ?_ | refine WC.ret ?_ | refine WE.passRet ?_ | refine WE.outRet ?_ | refine WL.wanted rfl rfl rfl ?_ | (apply WL.store; exact rfl; exact rfl; (first | assumption | exact rfl); exact SzC.eq; (first | assumption | exact rfl); (focus ((repeat constructor); done)))
    (apply WL.q; exact rfl; exact rfl; exact rfl; (apply EvW.ldElem (xs := l) (z := (default : Tel)) (f := telC); exact rfl; exact AggC.eq; exact SzC.eq; exact rfl; exact fun _ => rfl; assumption; omega))
    try refine WL.wanted rfl rfl rfl ?_
    (apply WL.alloc; exact rfl; exact ZvC.eq; exact rfl; intro tb)
    rw [show ((i : Nat) : Int).toNat = i from rfl]
    obtain ⟨t, htt⟩ : ∃ t, l.getD i default = t := ⟨_, rfl⟩
    rw [htt] at hstep htl ⊢
    obtain ⟨q, hqq⟩ : ∃ q, (ofF sv.1 t.1).getD (ixW sv.1 t.1) default = q := ⟨_, rfl⟩
    have hjb : ∀ b, ixW sv.1 t.1 < (ofZ zz t.1 b).length := fun b => by have := ixW_of zz t.1 b; rw [hzz] at this; exact this
    have hqb : ∀ b, ((ofZ zz t.1 b).getD (ixW sv.1 t.1) default).1 = q := fun b => by
      rw [← map_getD (·.1) _ _ (hjb b), ofZ_fst, hzz]; exact hqq
    have hqs : wSize q ≤ underF sv.1 := by rw [← hqq, ← under_of sv.1 t.1]; exact sum_at _ _
    have hil := inO_le q t.2
    have hs1 : stepF sv t = ((ofF sv.1 t.1).set (ixW sv.1 t.1) (inW q t.2), sv.2 ++ telsOf t.1 (inO q t.2)) := by unfold stepF; rw [hqq]
    repeat first
      | (apply WL.q; exact rfl; exact rfl; exact rfl; (first | (apply EvW.move; exact rfl) | (apply EvW.assign; exact rfl) | (apply EvW.nilPtr; exact rfl) | (apply EvW.fieldAddr0; exact rfl; exact FldC.eq) | (apply EvW.fieldAddr; exact rfl; exact FldC.eq) | (apply EvW.load; exact rfl; exact ScalC.eq; (focus ((repeat constructor); done)); exact rfl) | (apply EvW.ldSeen; exact rfl; exact ScalC.eq; assumption; (first | exact rfl | assumption)) | (apply EvW.ldFld; exact rfl; exact ScalC.eq; assumption; exact fun _ => rfl; omega; exact rfl; exact inferInstance) | (apply EvW.lenL; exact rfl; exact UndC.eq) | (apply EvW.cmpT; exact rfl; exact rfl; exact rfl; omega) | (apply EvW.cmpF; exact rfl; exact rfl; exact rfl; omega) | (apply EvW.cmp; exact rfl; exact rfl; exact rfl) | (apply EvW.arN; exact rfl; exact rfl; exact rfl; refine i64_in ?_ ?_ <;> omega) | (apply EvW.ar; exact rfl; exact rfl; exact rfl) | (apply EvW.loadAgg; exact rfl; exact AggC.eq; exact SzC.eq; (focus ((repeat constructor); done)); (focus ((repeat (first | exact SubL.nil | apply SubL.cons | apply SubL.succ)); done))) | (apply EvW.makeFunc; exact rfl) | (apply EvW.ldStr; exact rfl; exact ScalC.eq; assumption; omega) | (apply EvW.ldStrOwn; exact rfl; exact ScalC.eq; (focus ((repeat constructor); done)); omega) | (apply EvW.lenRow; exact rfl; exact UndC.eq; assumption) | (apply EvW.lenOwn; exact rfl; exact UndC.eq; (focus ((repeat constructor); done))) | (apply EvW.idxRow; exact rfl; exact rfl; exact UndC.eq; exact SzC.eq; assumption; omega; omega) | (apply EvW.idxOwn; exact rfl; exact rfl; exact UndC.eq; exact SzC.eq; (focus ((repeat constructor); done)); omega; omega) | (apply EvW.ldInt; exact rfl; exact ScalC.eq; assumption; omega) | (apply EvW.ldIntOwn; exact rfl; exact ScalC.eq; (focus ((repeat constructor); done)); omega) | (apply EvW.fldRow; exact rfl; exact FldC.eq; assumption; omega) | (apply EvW.fldOwn; exact rfl; exact FldC.eq; (focus ((repeat constructor); done)); omega) | (apply EvW.nilElemOwn; exact rfl; (focus ((repeat constructor); done)); omega) | (apply EvW.nilElemRow; exact rfl; assumption; omega) | (apply EvW.ldFldOwn; exact rfl; exact ScalC.eq; (focus ((repeat constructor); done)); exact fun _ => rfl; omega; exact rfl; exact inferInstance) | (apply EvW.lookup; exact rfl; exact rfl; exact UndC.eq; exact UndC.eq; exact ZvC.eq; (focus ((repeat constructor); done))) | (apply EvW.lookupOk; exact rfl; exact rfl; exact UndC.eq; exact UndC.eq; exact ZvC.eq; (focus ((repeat constructor); done))) | (apply EvW.lookupT; exact rfl; exact rfl; exact UndC.eq; exact UndC.eq; exact ZvC.eq; (focus ((repeat constructor); done)))))
      | refine WC.seq ?_ | refine WC.region ?_ | refine WL.nil ?_ | refine WE.next ?_ | refine WC.block ?_ | refine WC.skip ?_ | refine WC.exit ?_ | refine WE.pass ?_ | refine WE.hit ?_ | refine WE.miss rfl ?_ | refine WE.out ?_ | refine WC.condT rfl ?_ | refine WC.condF rfl ?_ | refine WC.ret ?_ | refine WE.passRet ?_ | refine WE.outRet ?_ | refine WL.wanted rfl rfl rfl ?_ | (apply WL.store; exact rfl; exact rfl; (first | assumption | exact rfl); exact SzC.eq; (first | assumption | exact rfl); (focus ((repeat constructor); done)))
    repeat refine WC.seq ?_
    refine WC.keep (xs := [.blk wb #[.map (some mb)] 50, .tmap mb ((zz).map kv), sepL ((zz).map wz), outH ob sv.2, .blk tb #[i64 t.1, str t.2] 34]) (by repeat constructor) ?_
    apply WC.par _ (fun c : Ch => [.blk wb #[.map (some mb)] 50, .blk wb #[.map (some mb)] 50, .tmap mb ((zz).map kv), .tmap mb (((ofZ zz t.1 (c 6).1)).map kv), sepL ((zz).map wz), sepL (((ofZ zz t.1 (c 6).1)).map wz), sepL ((((ofZ zz t.1 (c 6).1).set (ixW sv.1 t.1) (inW q t.2, ((ofZ zz t.1 (c 6).1).getD (ixW sv.1 t.1) default).2))).map wz), .own 9 1 ((c 9).2) (inO q t.2).length ((inO q t.2).map str), outH ob sv.2, outH ob (sv.2 ++ telsOf t.1 (inO q t.2)), .blk tb #[i64 t.1, str t.2] 34]) [none, some 6, none, some 6, none, some 6, some 9, some 9, none, some 10, none] [some 6, none, some 6, none, some 6, some 9, none, none, some 10, none, none] [(6, fun x => ptr ((ofZ zz t.1 x.1).getD (ixW sv.1 t.1) default).2 0), (9, fun x => x.2)] Try.mixed
    · (focus ((repeat (first | exact Restr.nil | (apply Restr.keep; exact rfl; exact rfl) | (apply Restr.drop; exact rfl))); done))
    · intro c; exact (by repeat constructor)
    · exact rfl
    · decide +kernel
    · decide +kernel
    · intro c
      (apply Par.quiet _ [false, false, false, false, false, false, false, false, true, false, true]; exact rfl; decide +kernel; exact rfl; intro R; refine ⟨_, (by repeat constructor), ?_⟩;
           (first | (apply EvW.move; exact rfl) | (apply EvW.assign; exact rfl) | (apply EvW.nilPtr; exact rfl) | (apply EvW.fieldAddr0; exact rfl; exact FldC.eq) | (apply EvW.fieldAddr; exact rfl; exact FldC.eq) | (apply EvW.load; exact rfl; exact ScalC.eq; (focus ((repeat constructor); done)); exact rfl) | (apply EvW.ldSeen; exact rfl; exact ScalC.eq; assumption; (first | exact rfl | assumption)) | (apply EvW.ldFld; exact rfl; exact ScalC.eq; assumption; exact fun _ => rfl; omega; exact rfl; exact inferInstance) | (apply EvW.lenL; exact rfl; exact UndC.eq) | (apply EvW.cmpT; exact rfl; exact rfl; exact rfl; omega) | (apply EvW.cmpF; exact rfl; exact rfl; exact rfl; omega) | (apply EvW.cmp; exact rfl; exact rfl; exact rfl) | (apply EvW.arN; exact rfl; exact rfl; exact rfl; refine i64_in ?_ ?_ <;> omega) | (apply EvW.ar; exact rfl; exact rfl; exact rfl) | (apply EvW.loadAgg; exact rfl; exact AggC.eq; exact SzC.eq; (focus ((repeat constructor); done)); (focus ((repeat (first | exact SubL.nil | apply SubL.cons | apply SubL.succ)); done))) | (apply EvW.makeFunc; exact rfl) | (apply EvW.ldStr; exact rfl; exact ScalC.eq; assumption; omega) | (apply EvW.ldStrOwn; exact rfl; exact ScalC.eq; (focus ((repeat constructor); done)); omega) | (apply EvW.lenRow; exact rfl; exact UndC.eq; assumption) | (apply EvW.lenOwn; exact rfl; exact UndC.eq; (focus ((repeat constructor); done))) | (apply EvW.idxRow; exact rfl; exact rfl; exact UndC.eq; exact SzC.eq; assumption; omega; omega) | (apply EvW.idxOwn; exact rfl; exact rfl; exact UndC.eq; exact SzC.eq; (focus ((repeat constructor); done)); omega; omega) | (apply EvW.ldInt; exact rfl; exact ScalC.eq; assumption; omega) | (apply EvW.ldIntOwn; exact rfl; exact ScalC.eq; (focus ((repeat constructor); done)); omega) | (apply EvW.fldRow; exact rfl; exact FldC.eq; assumption; omega) | (apply EvW.fldOwn; exact rfl; exact FldC.eq; (focus ((repeat constructor); done)); omega) | (apply EvW.nilElemOwn; exact rfl; (focus ((repeat constructor); done)); omega) | (apply EvW.nilElemRow; exact rfl; assumption; omega) | (apply EvW.ldFldOwn; exact rfl; exact ScalC.eq; (focus ((repeat constructor); done)); exact fun _ => rfl; omega; exact rfl; exact inferInstance) | (apply EvW.lookup; exact rfl; exact rfl; exact UndC.eq; exact UndC.eq; exact ZvC.eq; (focus ((repeat constructor); done))) | (apply EvW.lookupOk; exact rfl; exact rfl; exact UndC.eq; exact UndC.eq; exact ZvC.eq; (focus ((repeat constructor); done))) | (apply EvW.lookupT; exact rfl; exact rfl; exact UndC.eq; exact UndC.eq; exact ZvC.eq; (focus ((repeat constructor); done)))))
      (apply Par.quiet _ [false, false, false, false, false, false, false, false, true, false, true]; exact rfl; decide +kernel; exact rfl; intro R; refine ⟨_, (by repeat constructor), ?_⟩;
           (first | (apply EvW.move; exact rfl) | (apply EvW.assign; exact rfl) | (apply EvW.nilPtr; exact rfl) | (apply EvW.fieldAddr0; exact rfl; exact FldC.eq) | (apply EvW.fieldAddr; exact rfl; exact FldC.eq) | (apply EvW.load; exact rfl; exact ScalC.eq; (focus ((repeat constructor); done)); exact rfl) | (apply EvW.ldSeen; exact rfl; exact ScalC.eq; assumption; (first | exact rfl | assumption)) | (apply EvW.ldFld; exact rfl; exact ScalC.eq; assumption; exact fun _ => rfl; omega; exact rfl; exact inferInstance) | (apply EvW.lenL; exact rfl; exact UndC.eq) | (apply EvW.cmpT; exact rfl; exact rfl; exact rfl; omega) | (apply EvW.cmpF; exact rfl; exact rfl; exact rfl; omega) | (apply EvW.cmp; exact rfl; exact rfl; exact rfl) | (apply EvW.arN; exact rfl; exact rfl; exact rfl; refine i64_in ?_ ?_ <;> omega) | (apply EvW.ar; exact rfl; exact rfl; exact rfl) | (apply EvW.loadAgg; exact rfl; exact AggC.eq; exact SzC.eq; (focus ((repeat constructor); done)); (focus ((repeat (first | exact SubL.nil | apply SubL.cons | apply SubL.succ)); done))) | (apply EvW.makeFunc; exact rfl) | (apply EvW.ldStr; exact rfl; exact ScalC.eq; assumption; omega) | (apply EvW.ldStrOwn; exact rfl; exact ScalC.eq; (focus ((repeat constructor); done)); omega) | (apply EvW.lenRow; exact rfl; exact UndC.eq; assumption) | (apply EvW.lenOwn; exact rfl; exact UndC.eq; (focus ((repeat constructor); done))) | (apply EvW.idxRow; exact rfl; exact rfl; exact UndC.eq; exact SzC.eq; assumption; omega; omega) | (apply EvW.idxOwn; exact rfl; exact rfl; exact UndC.eq; exact SzC.eq; (focus ((repeat constructor); done)); omega; omega) | (apply EvW.ldInt; exact rfl; exact ScalC.eq; assumption; omega) | (apply EvW.ldIntOwn; exact rfl; exact ScalC.eq; (focus ((repeat constructor); done)); omega) | (apply EvW.fldRow; exact rfl; exact FldC.eq; assumption; omega) | (apply EvW.fldOwn; exact rfl; exact FldC.eq; (focus ((repeat constructor); done)); omega) | (apply EvW.nilElemOwn; exact rfl; (focus ((repeat constructor); done)); omega) | (apply EvW.nilElemRow; exact rfl; assumption; omega) | (apply EvW.ldFldOwn; exact rfl; exact ScalC.eq; (focus ((repeat constructor); done)); exact fun _ => rfl; omega; exact rfl; exact inferInstance) | (apply EvW.lookup; exact rfl; exact rfl; exact UndC.eq; exact UndC.eq; exact ZvC.eq; (focus ((repeat constructor); done))) | (apply EvW.lookupOk; exact rfl; exact rfl; exact UndC.eq; exact UndC.eq; exact ZvC.eq; (focus ((repeat constructor); done))) | (apply EvW.lookupT; exact rfl; exact rfl; exact UndC.eq; exact UndC.eq; exact ZvC.eq; (focus ((repeat constructor); done)))))
      (apply Par.quiet _ [false, false, false, false, false, false, false, false, true, false, true]; exact rfl; decide +kernel; exact rfl; intro R; refine ⟨_, (by repeat constructor), ?_⟩;
           (first | (apply EvW.move; exact rfl) | (apply EvW.assign; exact rfl) | (apply EvW.nilPtr; exact rfl) | (apply EvW.fieldAddr0; exact rfl; exact FldC.eq) | (apply EvW.fieldAddr; exact rfl; exact FldC.eq) | (apply EvW.load; exact rfl; exact ScalC.eq; (focus ((repeat constructor); done)); exact rfl) | (apply EvW.ldSeen; exact rfl; exact ScalC.eq; assumption; (first | exact rfl | assumption)) | (apply EvW.ldFld; exact rfl; exact ScalC.eq; assumption; exact fun _ => rfl; omega; exact rfl; exact inferInstance) | (apply EvW.lenL; exact rfl; exact UndC.eq) | (apply EvW.cmpT; exact rfl; exact rfl; exact rfl; omega) | (apply EvW.cmpF; exact rfl; exact rfl; exact rfl; omega) | (apply EvW.cmp; exact rfl; exact rfl; exact rfl) | (apply EvW.arN; exact rfl; exact rfl; exact rfl; refine i64_in ?_ ?_ <;> omega) | (apply EvW.ar; exact rfl; exact rfl; exact rfl) | (apply EvW.loadAgg; exact rfl; exact AggC.eq; exact SzC.eq; (focus ((repeat constructor); done)); (focus ((repeat (first | exact SubL.nil | apply SubL.cons | apply SubL.succ)); done))) | (apply EvW.makeFunc; exact rfl) | (apply EvW.ldStr; exact rfl; exact ScalC.eq; assumption; omega) | (apply EvW.ldStrOwn; exact rfl; exact ScalC.eq; (focus ((repeat constructor); done)); omega) | (apply EvW.lenRow; exact rfl; exact UndC.eq; assumption) | (apply EvW.lenOwn; exact rfl; exact UndC.eq; (focus ((repeat constructor); done))) | (apply EvW.idxRow; exact rfl; exact rfl; exact UndC.eq; exact SzC.eq; assumption; omega; omega) | (apply EvW.idxOwn; exact rfl; exact rfl; exact UndC.eq; exact SzC.eq; (focus ((repeat constructor); done)); omega; omega) | (apply EvW.ldInt; exact rfl; exact ScalC.eq; assumption; omega) | (apply EvW.ldIntOwn; exact rfl; exact ScalC.eq; (focus ((repeat constructor); done)); omega) | (apply EvW.fldRow; exact rfl; exact FldC.eq; assumption; omega) | (apply EvW.fldOwn; exact rfl; exact FldC.eq; (focus ((repeat constructor); done)); omega) | (apply EvW.nilElemOwn; exact rfl; (focus ((repeat constructor); done)); omega) | (apply EvW.nilElemRow; exact rfl; assumption; omega) | (apply EvW.ldFldOwn; exact rfl; exact ScalC.eq; (focus ((repeat constructor); done)); exact fun _ => rfl; omega; exact rfl; exact inferInstance) | (apply EvW.lookup; exact rfl; exact rfl; exact UndC.eq; exact UndC.eq; exact ZvC.eq; (focus ((repeat constructor); done))) | (apply EvW.lookupOk; exact rfl; exact rfl; exact UndC.eq; exact UndC.eq; exact ZvC.eq; (focus ((repeat constructor); done))) | (apply EvW.lookupT; exact rfl; exact rfl; exact UndC.eq; exact UndC.eq; exact ZvC.eq; (focus ((repeat constructor); done)))))
      (apply Par.quiet _ [true, false, true, false, true, false, false, false, true, false, true]; exact rfl; decide +kernel; exact rfl; intro R; refine ⟨_, (by repeat constructor), ?_⟩;
           (first | (apply EvW.move; exact rfl) | (apply EvW.assign; exact rfl) | (apply EvW.nilPtr; exact rfl) | (apply EvW.fieldAddr0; exact rfl; exact FldC.eq) | (apply EvW.fieldAddr; exact rfl; exact FldC.eq) | (apply EvW.load; exact rfl; exact ScalC.eq; (focus ((repeat constructor); done)); exact rfl) | (apply EvW.ldSeen; exact rfl; exact ScalC.eq; assumption; (first | exact rfl | assumption)) | (apply EvW.ldFld; exact rfl; exact ScalC.eq; assumption; exact fun _ => rfl; omega; exact rfl; exact inferInstance) | (apply EvW.lenL; exact rfl; exact UndC.eq) | (apply EvW.cmpT; exact rfl; exact rfl; exact rfl; omega) | (apply EvW.cmpF; exact rfl; exact rfl; exact rfl; omega) | (apply EvW.cmp; exact rfl; exact rfl; exact rfl) | (apply EvW.arN; exact rfl; exact rfl; exact rfl; refine i64_in ?_ ?_ <;> omega) | (apply EvW.ar; exact rfl; exact rfl; exact rfl) | (apply EvW.loadAgg; exact rfl; exact AggC.eq; exact SzC.eq; (focus ((repeat constructor); done)); (focus ((repeat (first | exact SubL.nil | apply SubL.cons | apply SubL.succ)); done))) | (apply EvW.makeFunc; exact rfl) | (apply EvW.ldStr; exact rfl; exact ScalC.eq; assumption; omega) | (apply EvW.ldStrOwn; exact rfl; exact ScalC.eq; (focus ((repeat constructor); done)); omega) | (apply EvW.lenRow; exact rfl; exact UndC.eq; assumption) | (apply EvW.lenOwn; exact rfl; exact UndC.eq; (focus ((repeat constructor); done))) | (apply EvW.idxRow; exact rfl; exact rfl; exact UndC.eq; exact SzC.eq; assumption; omega; omega) | (apply EvW.idxOwn; exact rfl; exact rfl; exact UndC.eq; exact SzC.eq; (focus ((repeat constructor); done)); omega; omega) | (apply EvW.ldInt; exact rfl; exact ScalC.eq; assumption; omega) | (apply EvW.ldIntOwn; exact rfl; exact ScalC.eq; (focus ((repeat constructor); done)); omega) | (apply EvW.fldRow; exact rfl; exact FldC.eq; assumption; omega) | (apply EvW.fldOwn; exact rfl; exact FldC.eq; (focus ((repeat constructor); done)); omega) | (apply EvW.nilElemOwn; exact rfl; (focus ((repeat constructor); done)); omega) | (apply EvW.nilElemRow; exact rfl; assumption; omega) | (apply EvW.ldFldOwn; exact rfl; exact ScalC.eq; (focus ((repeat constructor); done)); exact fun _ => rfl; omega; exact rfl; exact inferInstance) | (apply EvW.lookup; exact rfl; exact rfl; exact UndC.eq; exact UndC.eq; exact ZvC.eq; (focus ((repeat constructor); done))) | (apply EvW.lookupOk; exact rfl; exact rfl; exact UndC.eq; exact UndC.eq; exact ZvC.eq; (focus ((repeat constructor); done))) | (apply EvW.lookupT; exact rfl; exact rfl; exact UndC.eq; exact UndC.eq; exact ZvC.eq; (focus ((repeat constructor); done)))))
      (apply Par.quiet _ [true, false, true, false, true, false, false, false, true, false, true]; exact rfl; decide +kernel; exact rfl; intro R; refine ⟨_, (by repeat constructor), ?_⟩;
           (first | (apply EvW.move; exact rfl) | (apply EvW.assign; exact rfl) | (apply EvW.nilPtr; exact rfl) | (apply EvW.fieldAddr0; exact rfl; exact FldC.eq) | (apply EvW.fieldAddr; exact rfl; exact FldC.eq) | (apply EvW.load; exact rfl; exact ScalC.eq; (focus ((repeat constructor); done)); exact rfl) | (apply EvW.ldSeen; exact rfl; exact ScalC.eq; assumption; (first | exact rfl | assumption)) | (apply EvW.ldFld; exact rfl; exact ScalC.eq; assumption; exact fun _ => rfl; omega; exact rfl; exact inferInstance) | (apply EvW.lenL; exact rfl; exact UndC.eq) | (apply EvW.cmpT; exact rfl; exact rfl; exact rfl; omega) | (apply EvW.cmpF; exact rfl; exact rfl; exact rfl; omega) | (apply EvW.cmp; exact rfl; exact rfl; exact rfl) | (apply EvW.arN; exact rfl; exact rfl; exact rfl; refine i64_in ?_ ?_ <;> omega) | (apply EvW.ar; exact rfl; exact rfl; exact rfl) | (apply EvW.loadAgg; exact rfl; exact AggC.eq; exact SzC.eq; (focus ((repeat constructor); done)); (focus ((repeat (first | exact SubL.nil | apply SubL.cons | apply SubL.succ)); done))) | (apply EvW.makeFunc; exact rfl) | (apply EvW.ldStr; exact rfl; exact ScalC.eq; assumption; omega) | (apply EvW.ldStrOwn; exact rfl; exact ScalC.eq; (focus ((repeat constructor); done)); omega) | (apply EvW.lenRow; exact rfl; exact UndC.eq; assumption) | (apply EvW.lenOwn; exact rfl; exact UndC.eq; (focus ((repeat constructor); done))) | (apply EvW.idxRow; exact rfl; exact rfl; exact UndC.eq; exact SzC.eq; assumption; omega; omega) | (apply EvW.idxOwn; exact rfl; exact rfl; exact UndC.eq; exact SzC.eq; (focus ((repeat constructor); done)); omega; omega) | (apply EvW.ldInt; exact rfl; exact ScalC.eq; assumption; omega) | (apply EvW.ldIntOwn; exact rfl; exact ScalC.eq; (focus ((repeat constructor); done)); omega) | (apply EvW.fldRow; exact rfl; exact FldC.eq; assumption; omega) | (apply EvW.fldOwn; exact rfl; exact FldC.eq; (focus ((repeat constructor); done)); omega) | (apply EvW.nilElemOwn; exact rfl; (focus ((repeat constructor); done)); omega) | (apply EvW.nilElemRow; exact rfl; assumption; omega) | (apply EvW.ldFldOwn; exact rfl; exact ScalC.eq; (focus ((repeat constructor); done)); exact fun _ => rfl; omega; exact rfl; exact inferInstance) | (apply EvW.lookup; exact rfl; exact rfl; exact UndC.eq; exact UndC.eq; exact ZvC.eq; (focus ((repeat constructor); done))) | (apply EvW.lookupOk; exact rfl; exact rfl; exact UndC.eq; exact UndC.eq; exact ZvC.eq; (focus ((repeat constructor); done))) | (apply EvW.lookupT; exact rfl; exact rfl; exact UndC.eq; exact UndC.eq; exact ZvC.eq; (focus ((repeat constructor); done)))))
      (apply Par.quiet _ [true, false, true, false, true, false, false, false, true, false, true]; exact rfl; decide +kernel; exact rfl; intro R; refine ⟨_, (by repeat constructor), ?_⟩;
           (first | (apply EvW.move; exact rfl) | (apply EvW.assign; exact rfl) | (apply EvW.nilPtr; exact rfl) | (apply EvW.fieldAddr0; exact rfl; exact FldC.eq) | (apply EvW.fieldAddr; exact rfl; exact FldC.eq) | (apply EvW.load; exact rfl; exact ScalC.eq; (focus ((repeat constructor); done)); exact rfl) | (apply EvW.ldSeen; exact rfl; exact ScalC.eq; assumption; (first | exact rfl | assumption)) | (apply EvW.ldFld; exact rfl; exact ScalC.eq; assumption; exact fun _ => rfl; omega; exact rfl; exact inferInstance) | (apply EvW.lenL; exact rfl; exact UndC.eq) | (apply EvW.cmpT; exact rfl; exact rfl; exact rfl; omega) | (apply EvW.cmpF; exact rfl; exact rfl; exact rfl; omega) | (apply EvW.cmp; exact rfl; exact rfl; exact rfl) | (apply EvW.arN; exact rfl; exact rfl; exact rfl; refine i64_in ?_ ?_ <;> omega) | (apply EvW.ar; exact rfl; exact rfl; exact rfl) | (apply EvW.loadAgg; exact rfl; exact AggC.eq; exact SzC.eq; (focus ((repeat constructor); done)); (focus ((repeat (first | exact SubL.nil | apply SubL.cons | apply SubL.succ)); done))) | (apply EvW.makeFunc; exact rfl) | (apply EvW.ldStr; exact rfl; exact ScalC.eq; assumption; omega) | (apply EvW.ldStrOwn; exact rfl; exact ScalC.eq; (focus ((repeat constructor); done)); omega) | (apply EvW.lenRow; exact rfl; exact UndC.eq; assumption) | (apply EvW.lenOwn; exact rfl; exact UndC.eq; (focus ((repeat constructor); done))) | (apply EvW.idxRow; exact rfl; exact rfl; exact UndC.eq; exact SzC.eq; assumption; omega; omega) | (apply EvW.idxOwn; exact rfl; exact rfl; exact UndC.eq; exact SzC.eq; (focus ((repeat constructor); done)); omega; omega) | (apply EvW.ldInt; exact rfl; exact ScalC.eq; assumption; omega) | (apply EvW.ldIntOwn; exact rfl; exact ScalC.eq; (focus ((repeat constructor); done)); omega) | (apply EvW.fldRow; exact rfl; exact FldC.eq; assumption; omega) | (apply EvW.fldOwn; exact rfl; exact FldC.eq; (focus ((repeat constructor); done)); omega) | (apply EvW.nilElemOwn; exact rfl; (focus ((repeat constructor); done)); omega) | (apply EvW.nilElemRow; exact rfl; assumption; omega) | (apply EvW.ldFldOwn; exact rfl; exact ScalC.eq; (focus ((repeat constructor); done)); exact fun _ => rfl; omega; exact rfl; exact inferInstance) | (apply EvW.lookup; exact rfl; exact rfl; exact UndC.eq; exact UndC.eq; exact ZvC.eq; (focus ((repeat constructor); done))) | (apply EvW.lookupOk; exact rfl; exact rfl; exact UndC.eq; exact UndC.eq; exact ZvC.eq; (focus ((repeat constructor); done))) | (apply EvW.lookupT; exact rfl; exact rfl; exact UndC.eq; exact UndC.eq; exact ZvC.eq; (focus ((repeat constructor); done)))))
      apply Par.new _ [true, false, true, false, true, false, false, false, false, false, false] [false, true, false, true, false, true, false, false, false, false, false] [false, false, false, false, false, false, false, false, true, false, true]
      · exact rfl
      · exact rfl
      · decide +kernel
      · intro R
        refine ⟨_, _, _, (by repeat constructor), (by repeat constructor), (fun x => (by repeat constructor)), ?_⟩
        apply NewW.callA ([.blk wb #[.map (some mb)] 50, .tmap mb ((zz).map kv), sepL ((zz).map wz)]) (fun x => [.blk wb #[.map (some mb)] 50, .tmap mb (((ofZ zz t.1 x.1)).map kv), sepL (((ofZ zz t.1 x.1)).map wz)])
        · exact rfl
        · exact fun w => Try.call19 _ w
        · (focus ((repeat constructor); done))
        · exact fun w1 S1 hS1 hs1 ho1 => (by have h := of_spec zz wb mb t.1 w1 S1 hS1; rw [hzz] at h; exact h)
        · rintro _ _ ⟨b, rfl, rfl⟩; exact ⟨(b, undef), rfl, rfl⟩
        · exact fun x _ h => TakeT.st (by (focus ((repeat (first | exact TakeT.tail | apply TakeT.cons | exact Take.head | apply Take.tail | apply TakeT.drop)); done))) h
      (apply Par.quiet _ [false, false, false, false, false, false, false, false, true, false, true]; exact rfl; decide +kernel; exact rfl; intro R; refine ⟨_, (by repeat constructor), ?_⟩;
           (first | (apply EvW.move; exact rfl) | (apply EvW.assign; exact rfl) | (apply EvW.nilPtr; exact rfl) | (apply EvW.fieldAddr0; exact rfl; exact FldC.eq) | (apply EvW.fieldAddr; exact rfl; exact FldC.eq) | (apply EvW.load; exact rfl; exact ScalC.eq; (focus ((repeat constructor); done)); exact rfl) | (apply EvW.ldSeen; exact rfl; exact ScalC.eq; assumption; (first | exact rfl | assumption)) | (apply EvW.ldFld; exact rfl; exact ScalC.eq; assumption; exact fun _ => rfl; omega; exact rfl; exact inferInstance) | (apply EvW.lenL; exact rfl; exact UndC.eq) | (apply EvW.cmpT; exact rfl; exact rfl; exact rfl; omega) | (apply EvW.cmpF; exact rfl; exact rfl; exact rfl; omega) | (apply EvW.cmp; exact rfl; exact rfl; exact rfl) | (apply EvW.arN; exact rfl; exact rfl; exact rfl; refine i64_in ?_ ?_ <;> omega) | (apply EvW.ar; exact rfl; exact rfl; exact rfl) | (apply EvW.loadAgg; exact rfl; exact AggC.eq; exact SzC.eq; (focus ((repeat constructor); done)); (focus ((repeat (first | exact SubL.nil | apply SubL.cons | apply SubL.succ)); done))) | (apply EvW.makeFunc; exact rfl) | (apply EvW.ldStr; exact rfl; exact ScalC.eq; assumption; omega) | (apply EvW.ldStrOwn; exact rfl; exact ScalC.eq; (focus ((repeat constructor); done)); omega) | (apply EvW.lenRow; exact rfl; exact UndC.eq; assumption) | (apply EvW.lenOwn; exact rfl; exact UndC.eq; (focus ((repeat constructor); done))) | (apply EvW.idxRow; exact rfl; exact rfl; exact UndC.eq; exact SzC.eq; assumption; omega; omega) | (apply EvW.idxOwn; exact rfl; exact rfl; exact UndC.eq; exact SzC.eq; (focus ((repeat constructor); done)); omega; omega) | (apply EvW.ldInt; exact rfl; exact ScalC.eq; assumption; omega) | (apply EvW.ldIntOwn; exact rfl; exact ScalC.eq; (focus ((repeat constructor); done)); omega) | (apply EvW.fldRow; exact rfl; exact FldC.eq; assumption; omega) | (apply EvW.fldOwn; exact rfl; exact FldC.eq; (focus ((repeat constructor); done)); omega) | (apply EvW.nilElemOwn; exact rfl; (focus ((repeat constructor); done)); omega) | (apply EvW.nilElemRow; exact rfl; assumption; omega) | (apply EvW.ldFldOwn; exact rfl; exact ScalC.eq; (focus ((repeat constructor); done)); exact fun _ => rfl; omega; exact rfl; exact inferInstance) | (apply EvW.lookup; exact rfl; exact rfl; exact UndC.eq; exact UndC.eq; exact ZvC.eq; (focus ((repeat constructor); done))) | (apply EvW.lookupOk; exact rfl; exact rfl; exact UndC.eq; exact UndC.eq; exact ZvC.eq; (focus ((repeat constructor); done))) | (apply EvW.lookupT; exact rfl; exact rfl; exact UndC.eq; exact UndC.eq; exact ZvC.eq; (focus ((repeat constructor); done)))))
      (apply Par.quiet _ [false, false, false, false, false, false, false, false, true, false, true]; exact rfl; decide +kernel; exact rfl; intro R; refine ⟨_, (by repeat constructor), ?_⟩;
           (first | (apply EvW.move; exact rfl) | (apply EvW.assign; exact rfl) | (apply EvW.nilPtr; exact rfl) | (apply EvW.fieldAddr0; exact rfl; exact FldC.eq) | (apply EvW.fieldAddr; exact rfl; exact FldC.eq) | (apply EvW.load; exact rfl; exact ScalC.eq; (focus ((repeat constructor); done)); exact rfl) | (apply EvW.ldSeen; exact rfl; exact ScalC.eq; assumption; (first | exact rfl | assumption)) | (apply EvW.ldFld; exact rfl; exact ScalC.eq; assumption; exact fun _ => rfl; omega; exact rfl; exact inferInstance) | (apply EvW.lenL; exact rfl; exact UndC.eq) | (apply EvW.cmpT; exact rfl; exact rfl; exact rfl; omega) | (apply EvW.cmpF; exact rfl; exact rfl; exact rfl; omega) | (apply EvW.cmp; exact rfl; exact rfl; exact rfl) | (apply EvW.arN; exact rfl; exact rfl; exact rfl; refine i64_in ?_ ?_ <;> omega) | (apply EvW.ar; exact rfl; exact rfl; exact rfl) | (apply EvW.loadAgg; exact rfl; exact AggC.eq; exact SzC.eq; (focus ((repeat constructor); done)); (focus ((repeat (first | exact SubL.nil | apply SubL.cons | apply SubL.succ)); done))) | (apply EvW.makeFunc; exact rfl) | (apply EvW.ldStr; exact rfl; exact ScalC.eq; assumption; omega) | (apply EvW.ldStrOwn; exact rfl; exact ScalC.eq; (focus ((repeat constructor); done)); omega) | (apply EvW.lenRow; exact rfl; exact UndC.eq; assumption) | (apply EvW.lenOwn; exact rfl; exact UndC.eq; (focus ((repeat constructor); done))) | (apply EvW.idxRow; exact rfl; exact rfl; exact UndC.eq; exact SzC.eq; assumption; omega; omega) | (apply EvW.idxOwn; exact rfl; exact rfl; exact UndC.eq; exact SzC.eq; (focus ((repeat constructor); done)); omega; omega) | (apply EvW.ldInt; exact rfl; exact ScalC.eq; assumption; omega) | (apply EvW.ldIntOwn; exact rfl; exact ScalC.eq; (focus ((repeat constructor); done)); omega) | (apply EvW.fldRow; exact rfl; exact FldC.eq; assumption; omega) | (apply EvW.fldOwn; exact rfl; exact FldC.eq; (focus ((repeat constructor); done)); omega) | (apply EvW.nilElemOwn; exact rfl; (focus ((repeat constructor); done)); omega) | (apply EvW.nilElemRow; exact rfl; assumption; omega) | (apply EvW.ldFldOwn; exact rfl; exact ScalC.eq; (focus ((repeat constructor); done)); exact fun _ => rfl; omega; exact rfl; exact inferInstance) | (apply EvW.lookup; exact rfl; exact rfl; exact UndC.eq; exact UndC.eq; exact ZvC.eq; (focus ((repeat constructor); done))) | (apply EvW.lookupOk; exact rfl; exact rfl; exact UndC.eq; exact UndC.eq; exact ZvC.eq; (focus ((repeat constructor); done))) | (apply EvW.lookupT; exact rfl; exact rfl; exact UndC.eq; exact UndC.eq; exact ZvC.eq; (focus ((repeat constructor); done)))))
      apply Par.new _ [false, false, false, false, false, true, false, false, false, false, false] [false, false, false, false, false, false, true, true, false, false, false] [false, true, false, true, false, false, false, false, true, false, true]
      · exact rfl
      · exact rfl
      · decide +kernel
      · intro R
        refine ⟨_, _, _, (by repeat constructor), (by repeat constructor), (fun x => (by repeat constructor)), ?_⟩
        apply NewW.callA ([sepL (((ofZ zz t.1 (c 6).1)).map wz)]) (fun x => [.own 9 1 (x.2) (inO q t.2).length ((inO q t.2).map str), sepL ((((ofZ zz t.1 (c 6).1).set (ixW sv.1 t.1) (inW q t.2, ((ofZ zz t.1 (c 6).1).getD (ixW sv.1 t.1) default).2))).map wz)])
        · exact rfl
        · exact fun w => Try.call24 _ w
        · (focus ((repeat constructor); done))
        · exact fun w1 S1 hS1 hs1 ho1 => (by have h := in_all (ofZ zz t.1 (c 6).1) (ixW sv.1 t.1) t.2 w1 S1 hS1 (hjb _) htl (by rw [hqb]; omega); rw [hqb] at h; exact h)
        · rintro _ _ rfl; exact ⟨(0, _), rfl, rfl⟩
        · exact fun x _ h => TakeT.st (by (focus ((repeat (first | exact TakeT.tail | apply TakeT.cons | exact Take.head | apply Take.tail | apply TakeT.drop)); done))) h
      apply Par.eff _ [false, false, false, false, false, false, false, false, true, false, false] [false, false, false, false, false, false, false, false, false, true, false] [false, true, false, true, false, false, true, true, false, false, true]
      · exact rfl
      · exact rfl
      · decide +kernel
      · intro R
        refine ⟨_, _, _, (by repeat constructor), (by repeat constructor), (by repeat constructor), ?_⟩
        (apply EffW.callTV (A1 := [outH ob sv.2]); exact rfl; exact rfl; exact fun w => Try.call20 _ w; (focus ((repeat constructor); done)); exact fun w1 S1 hS1 hs1 ho1 => add_spec ob sv.2 t.1 (c 9).2 (inO q t.2) w1 S1 hS1 (ho1 (.own 9 1 ((c 9).2) (inO q t.2).length ((inO q t.2).map str)) _ (by repeat constructor)).own (by omega); exact fun _ _ h => h; exact fun _ h => TakeT.st (by (focus ((repeat (first | exact TakeT.tail | apply TakeT.cons | exact Take.head | apply Take.tail | apply TakeT.drop)); done))) h)
      exact Par.nil
    · repeat (first | exact AllN.nil | (apply AllN.cons; (intro c x; (repeat (first | exact IndA.nil | (apply IndA.skip; decide +kernel) | apply IndA.same))))) 
    · repeat (first | exact AllN.nil | (apply AllN.cons; (intro c x; (repeat (first | exact IndT.nil | (apply IndT.skip; decide +kernel) | apply IndT.same))))) 
    · exact fun _ => rfl
    intro c
    refine ⟨_, (by repeat constructor), ?_⟩
    apply WE.writ
    · (focus ((repeat (first | exact Writ.nil | apply Writ.some | apply Writ.none)); done))
    generalize (c 6).1 = b6
    generalize (c 9).2 = vr
    have hkv2 := kv_set (ofZ zz t.1 b6) (ixW sv.1 t.1) (inW q t.2) _ (hjb b6) (by rw [hqb]; unfold inW; split; rfl; split; rfl; rfl) rfl
    have hnx : passF xs (l.take (i + 1)) = ((ofF sv.1 t.1).set (ixW sv.1 t.1) (inW q t.2), sv.2 ++ telsOf t.1 (inO q t.2)) := by rw [hstep, hs1]
    have hfst : ((ofZ zz t.1 b6).set (ixW sv.1 t.1) (inW q t.2, ((ofZ zz t.1 b6).getD (ixW sv.1 t.1) default).2)).map (·.1) = (ofF sv.1 t.1).set (ixW sv.1 t.1) (inW q t.2) := by
      rw [List.map_set, ofZ_fst, hzz]
    rw [← hkv2]
    generalize (ofZ zz t.1 b6).set (ixW sv.1 t.1) (inW q t.2, ((ofZ zz t.1 b6).getD (ixW sv.1 t.1) default).2) = z3 at hfst
    repeat first
      | (apply WL.q; exact rfl; exact rfl; exact rfl; (first | (apply EvW.move; exact rfl) | (apply EvW.assign; exact rfl) | (apply EvW.nilPtr; exact rfl) | (apply EvW.fieldAddr0; exact rfl; exact FldC.eq) | (apply EvW.fieldAddr; exact rfl; exact FldC.eq) | (apply EvW.load; exact rfl; exact ScalC.eq; (focus ((repeat constructor); done)); exact rfl) | (apply EvW.ldSeen; exact rfl; exact ScalC.eq; assumption; (first | exact rfl | assumption)) | (apply EvW.ldFld; exact rfl; exact ScalC.eq; assumption; exact fun _ => rfl; omega; exact rfl; exact inferInstance) | (apply EvW.lenL; exact rfl; exact UndC.eq) | (apply EvW.cmpT; exact rfl; exact rfl; exact rfl; omega) | (apply EvW.cmpF; exact rfl; exact rfl; exact rfl; omega) | (apply EvW.cmp; exact rfl; exact rfl; exact rfl) | (apply EvW.arN; exact rfl; exact rfl; exact rfl; refine i64_in ?_ ?_ <;> omega) | (apply EvW.ar; exact rfl; exact rfl; exact rfl) | (apply EvW.loadAgg; exact rfl; exact AggC.eq; exact SzC.eq; (focus ((repeat constructor); done)); (focus ((repeat (first | exact SubL.nil | apply SubL.cons | apply SubL.succ)); done))) | (apply EvW.makeFunc; exact rfl) | (apply EvW.ldStr; exact rfl; exact ScalC.eq; assumption; omega) | (apply EvW.ldStrOwn; exact rfl; exact ScalC.eq; (focus ((repeat constructor); done)); omega) | (apply EvW.lenRow; exact rfl; exact UndC.eq; assumption) | (apply EvW.lenOwn; exact rfl; exact UndC.eq; (focus ((repeat constructor); done))) | (apply EvW.idxRow; exact rfl; exact rfl; exact UndC.eq; exact SzC.eq; assumption; omega; omega) | (apply EvW.idxOwn; exact rfl; exact rfl; exact UndC.eq; exact SzC.eq; (focus ((repeat constructor); done)); omega; omega) | (apply EvW.ldInt; exact rfl; exact ScalC.eq; assumption; omega) | (apply EvW.ldIntOwn; exact rfl; exact ScalC.eq; (focus ((repeat constructor); done)); omega) | (apply EvW.fldRow; exact rfl; exact FldC.eq; assumption; omega) | (apply EvW.fldOwn; exact rfl; exact FldC.eq; (focus ((repeat constructor); done)); omega) | (apply EvW.nilElemOwn; exact rfl; (focus ((repeat constructor); done)); omega) | (apply EvW.nilElemRow; exact rfl; assumption; omega) | (apply EvW.ldFldOwn; exact rfl; exact ScalC.eq; (focus ((repeat constructor); done)); exact fun _ => rfl; omega; exact rfl; exact inferInstance) | (apply EvW.lookup; exact rfl; exact rfl; exact UndC.eq; exact UndC.eq; exact ZvC.eq; (focus ((repeat constructor); done))) | (apply EvW.lookupOk; exact rfl; exact rfl; exact UndC.eq; exact UndC.eq; exact ZvC.eq; (focus ((repeat constructor); done))) | (apply EvW.lookupT; exact rfl; exact rfl; exact UndC.eq; exact UndC.eq; exact ZvC.eq; (focus ((repeat constructor); done)))))
      | refine WC.seq ?_ | refine WC.region ?_ | refine WL.nil ?_ | refine WE.next ?_ | refine WC.block ?_ | refine WC.skip ?_ | refine WC.exit ?_ | refine WE.pass ?_ | refine WE.hit ?_ | refine WE.miss rfl ?_ | refine WE.out ?_ | refine WC.condT rfl ?_ | refine WC.condF rfl ?_ | refine WC.ret ?_ | refine WE.passRet ?_ | refine WE.outRet ?_ | refine WL.wanted rfl rfl rfl ?_ | (apply WL.store; exact rfl; exact rfl; (first | assumption | exact rfl); exact SzC.eq; (first | assumption | exact rfl); (focus ((repeat constructor); done)))
    exact WE.again (s := (i, zz)) ((i + 1, z3)) ⟨by simp only []; omega, by rw [hfst, hnx]⟩ (by (focus ((repeat (first | exact trivial | (refine ⟨rfl, ?_⟩))); done))) (fun _ h => (by (try simp only []); rw [hnx]; exact h.keep (by repeat constructor))) (by (try simp only []); omega)
  · obtain rfl : i = l.length := by omega
    rw [List.take_length] at hzz ⊢
    refine WC.exH (f := fun v : Value => sepL [.blk ob #[v] 28, .own 34 2 (v) ((passF xs l).2).length (((passF xs l).2).flatMap telC)]) (by repeat constructor) fun vo => ?_
    refine WC.unpack (L := [.blk ob #[vo] 28, .own 34 2 (vo) ((passF xs l).2).length (((passF xs l).2).flatMap telC)]) .head rfl ?_
    repeat first
      | (apply WL.q; exact rfl; exact rfl; exact rfl; (first | (apply EvW.move; exact rfl) | (apply EvW.assign; exact rfl) | (apply EvW.nilPtr; exact rfl) | (apply EvW.fieldAddr0; exact rfl; exact FldC.eq) | (apply EvW.fieldAddr; exact rfl; exact FldC.eq) | (apply EvW.load; exact rfl; exact ScalC.eq; (focus ((repeat constructor); done)); exact rfl) | (apply EvW.ldSeen; exact rfl; exact ScalC.eq; assumption; (first | exact rfl | assumption)) | (apply EvW.ldFld; exact rfl; exact ScalC.eq; assumption; exact fun _ => rfl; omega; exact rfl; exact inferInstance) | (apply EvW.lenL; exact rfl; exact UndC.eq) | (apply EvW.cmpT; exact rfl; exact rfl; exact rfl; omega) | (apply EvW.cmpF; exact rfl; exact rfl; exact rfl; omega) | (apply EvW.cmp; exact rfl; exact rfl; exact rfl) | (apply EvW.arN; exact rfl; exact rfl; exact rfl; refine i64_in ?_ ?_ <;> omega) | (apply EvW.ar; exact rfl; exact rfl; exact rfl) | (apply EvW.loadAgg; exact rfl; exact AggC.eq; exact SzC.eq; (focus ((repeat constructor); done)); (focus ((repeat (first | exact SubL.nil | apply SubL.cons | apply SubL.succ)); done))) | (apply EvW.makeFunc; exact rfl) | (apply EvW.ldStr; exact rfl; exact ScalC.eq; assumption; omega) | (apply EvW.ldStrOwn; exact rfl; exact ScalC.eq; (focus ((repeat constructor); done)); omega) | (apply EvW.lenRow; exact rfl; exact UndC.eq; assumption) | (apply EvW.lenOwn; exact rfl; exact UndC.eq; (focus ((repeat constructor); done))) | (apply EvW.idxRow; exact rfl; exact rfl; exact UndC.eq; exact SzC.eq; assumption; omega; omega) | (apply EvW.idxOwn; exact rfl; exact rfl; exact UndC.eq; exact SzC.eq; (focus ((repeat constructor); done)); omega; omega) | (apply EvW.ldInt; exact rfl; exact ScalC.eq; assumption; omega) | (apply EvW.ldIntOwn; exact rfl; exact ScalC.eq; (focus ((repeat constructor); done)); omega) | (apply EvW.fldRow; exact rfl; exact FldC.eq; assumption; omega) | (apply EvW.fldOwn; exact rfl; exact FldC.eq; (focus ((repeat constructor); done)); omega) | (apply EvW.nilElemOwn; exact rfl; (focus ((repeat constructor); done)); omega) | (apply EvW.nilElemRow; exact rfl; assumption; omega) | (apply EvW.ldFldOwn; exact rfl; exact ScalC.eq; (focus ((repeat constructor); done)); exact fun _ => rfl; omega; exact rfl; exact inferInstance) | (apply EvW.lookup; exact rfl; exact rfl; exact UndC.eq; exact UndC.eq; exact ZvC.eq; (focus ((repeat constructor); done))) | (apply EvW.lookupOk; exact rfl; exact rfl; exact UndC.eq; exact UndC.eq; exact ZvC.eq; (focus ((repeat constructor); done))) | (apply EvW.lookupT; exact rfl; exact rfl; exact UndC.eq; exact UndC.eq; exact ZvC.eq; (focus ((repeat constructor); done)))))
      | refine WC.seq ?_ | refine WC.region ?_ | refine WL.nil ?_ | refine WE.next ?_ | refine WC.block ?_ | refine WC.skip ?_ | refine WC.exit ?_ | refine WE.pass ?_ | refine WE.hit ?_ | refine WE.miss rfl ?_ | refine WE.out ?_ | refine WC.condT rfl ?_ | refine WC.condF rfl ?_ | refine WC.ret ?_ | refine WE.passRet ?_ | refine WE.outRet ?_ | refine WL.wanted rfl rfl rfl ?_ | (apply WL.store; exact rfl; exact rfl; (first | assumption | exact rfl); exact SzC.eq; (first | assumption | exact rfl); (focus ((repeat constructor); done)))
    refine WE.shutW (mb := mb) (zs := zz) (by repeat constructor) ?_
    rw [hzz]
    refine WE.keep (xs := [.own 34 2 (vo) ((passF xs l).2).length (((passF xs l).2).flatMap telC), wiresH wb (passF xs l).1]) (by repeat constructor) ?_
    refine WE.ret1 rfl rfl ?_
    rfl
end Go.Proofs.Ytoaajdmacngnjaa
namespace Go.Proofs.Ytoaajdmacngnjaa
open Go.RowKit Go.BK
theorem sortI_one (a : Int) : sortI [a] = [a] := List.perm_singleton.1 (sortI_perm [a])
theorem ixW_one (q : Wr) : ixW [q] q.p = 0 := by unfold ixW; rw [if_pos rfl]
theorem ofF_one (q : Wr) : ofF [q] q.p = [q] := by unfold ofF; rw [ixW_one, if_pos (by simp)]
theorem set_nil (p m : Int) (h : 0 ≤ m ∧ m ≤ 5) : setF [] p m = [⟨p, m, [], []⟩] := by
  unfold setF
  rw [if_neg (by omega)]
  rfl
theorem set_one (q : Wr) (m : Int) (h : 0 ≤ m ∧ m ≤ 5) : setF [q] q.p m = [⟨q.p, m, q.due, q.held⟩] := by
  unfold setF updW
  rw [if_neg (by omega), ofF_one, ixW_one]
  rfl
theorem inW_p (q : Wr) (s : Txt) : (inW q s).p = q.p := by
  unfold inW
  split
  · rfl
  · split <;> rfl
theorem inW_mode (q : Wr) (s : Txt) : (inW q s).mode = q.mode := by
  unfold inW
  split
  · rfl
  · split <;> rfl
theorem inO_mode (q q' : Wr) (s : Txt) (h : q.mode = q'.mode) : inO q s = inO q' s := by unfold inO; rw [h]
theorem step_one (q : Wr) (o : List Tel) (s : Txt) : stepF ([q], o) (q.p, s) = ([inW q s], o ++ telsOf q.p (inO q s)) := by
  unfold stepF
  dsimp only
  rw [ofF_one, ixW_one]
  rfl
def inA (q : Wr) (ts : List Txt) : Wr := ts.foldl inW (readyW q)
theorem telsOf_app (p : Int) (a b : List Txt) : telsOf p (a ++ b) = telsOf p a ++ telsOf p b := List.map_append
theorem pass1 (q : Wr) (ts : List Txt) : passF [q] (telsOf q.p ts) = ([inA q ts], telsOf q.p (readyO q ++ ts.flatMap (inO q))) := by
  have e : outR [q] (sortI ([q].map (·.p))) = telsOf q.p (readyO q) := by
    rw [List.map_singleton, sortI_one]
    unfold outR getW
    rw [List.flatMap_singleton, ixW_one]
    rfl
  unfold passF
  rw [e, telsOf_app]
  have key : ∀ (ts : List Txt) (r : Wr) (o : List Tel), r.p = q.p → r.mode = q.mode → (telsOf q.p ts).foldl stepF ([r], o) = ([ts.foldl inW r], o ++ telsOf q.p (ts.flatMap (inO q))) := by
    intro ts
    induction ts with
    | nil => intro r o _ _; show ([r], o) = ([r], o ++ []); rw [List.append_nil]
    | cons s ts ih =>
      intro r o hp hm
      show ((telsOf q.p ts).foldl stepF (stepF ([r], o) (q.p, s))) = _
      rw [← hp, step_one, hp, ih (inW r s) _ (by rw [inW_p, hp]) (by rw [inW_mode, hm]), List.flatMap_cons, telsOf_app, List.append_assoc, inO_mode r q s hm]
      rfl
  exact key ts (readyW q) _ rfl rfl
theorem okx_one {q : Wr} (h : (Lit.int .i64 q.p).wf = true) : Okx [q] := ⟨by simp, fun r hr => by rw [List.mem_singleton] at hr; subst hr; exact h, by show 1 ≤ _; decide⟩
set_option maxHeartbeats 1000000 in
theorem lives20_spec  (w : World) (S : BSet) (hS : (sepL []).sat S w)  :
    Tri Try.prog 9 #[] w S fun u A => u = .bool true ∧ A = [] := by
  refine Tri.enter (l := []) Try.func9 rfl Try.ntmps9 rfl [] (subA rfl) hS ?_
  repeat first
    | (apply WL.q; exact rfl; exact rfl; exact rfl; (first | (apply EvW.move; exact rfl) | (apply EvW.assign; exact rfl) | (apply EvW.fieldAddr0; exact rfl; exact FldC.eq) | (apply EvW.fieldAddr; exact rfl; exact FldC.eq) | (apply EvW.load; exact rfl; exact ScalC.eq; (focus ((repeat constructor); done)); exact rfl) | (apply EvW.ldSeen; exact rfl; exact ScalC.eq; assumption; (first | exact rfl | assumption)) | (apply EvW.ldFld; exact rfl; exact ScalC.eq; assumption; exact fun _ => rfl; omega; exact rfl; exact inferInstance) | (apply EvW.lenL; exact rfl; exact UndC.eq) | (apply EvW.cmpT; exact rfl; exact rfl; exact rfl; omega) | (apply EvW.cmpF; exact rfl; exact rfl; exact rfl; omega) | (apply EvW.cmp; exact rfl; exact rfl; exact rfl) | (apply EvW.pickT; exact rfl; exact rfl) | (apply EvW.pickF; exact rfl; exact rfl) | (apply EvW.seqS; exact rfl; exact rfl) | (apply EvW.seq; exact rfl; exact rfl) | (apply EvW.build; exact PlC.eq; exact ZvC.eq; exact rfl; exact rfl; (focus ((repeat (first | exact Fills.nil | (apply Fills.cons; exact rfl; (first | assumption | exact rfl); exact rfl) | exact SetMany.nil | apply SetMany.cons | apply SetMany.succ)); done))) | (apply EvW.peqN; exact rfl; exact rfl; exact UndC.eq) | (apply EvW.ldStr; exact rfl; exact ScalC.eq; assumption; omega) | (apply EvW.ldStrOwn; exact rfl; exact ScalC.eq; (focus ((repeat constructor); done)); omega) | (apply EvW.lenRow; exact rfl; exact UndC.eq; assumption) | (apply EvW.lenOwn; exact rfl; exact UndC.eq; (focus ((repeat constructor); done))) | (apply EvW.idxRow; exact rfl; exact rfl; exact UndC.eq; exact SzC.eq; assumption; omega; omega) | (apply EvW.idxOwn; exact rfl; exact rfl; exact UndC.eq; exact SzC.eq; (focus ((repeat constructor); done)); omega; omega) | (apply EvW.fldRow; exact rfl; exact FldC.eq; assumption; omega) | (apply EvW.fldOwn; exact rfl; exact FldC.eq; (focus ((repeat constructor); done)); omega) | (apply EvW.ldFldOwn; exact rfl; exact ScalC.eq; (focus ((repeat constructor); done)); exact fun _ => rfl; omega; exact rfl; exact inferInstance)))
    | refine WC.seq ?_ | refine WC.region ?_ | refine WL.nil ?_ | refine WE.next ?_ | refine WC.skip ?_ | refine WC.exit ?_ | refine WE.pass ?_ | refine WE.hit ?_ | refine WE.miss rfl ?_ | refine WE.out ?_ | refine WC.condT rfl ?_ | refine WC.condF rfl ?_ | refine WC.ret ?_ | refine WE.passRet ?_ | refine WE.outRet ?_ | refine WL.wanted rfl rfl rfl ?_ | refine WL.unwanted rfl rfl rfl rfl ?_ | refine WL.unwantedU rfl rfl rfl rfl ?_ | refine WL.unwanted0 rfl rfl rfl ?_
  try refine WL.wanted rfl rfl rfl ?_
  apply WL.callA ([])
  · exact rfl
  · exact rfl
  · exact fun w => Try.call10 _ w
  · (focus ((repeat constructor); done))
  · exact fun w1 S1 hS1 hs1 ho1 => wnew_spec w1 S1 hS1
  rintro _ _ ⟨wb, rfl, rfl⟩
  first | refine WL.app4 ?_ | refine WL.app3 ?_ | refine WL.app2 ?_ | refine WL.app1 ?_ | refine WL.app0 ?_ | skip
  repeat first
    | (apply WL.q; exact rfl; exact rfl; exact rfl; (first | (apply EvW.move; exact rfl) | (apply EvW.assign; exact rfl) | (apply EvW.fieldAddr0; exact rfl; exact FldC.eq) | (apply EvW.fieldAddr; exact rfl; exact FldC.eq) | (apply EvW.load; exact rfl; exact ScalC.eq; (focus ((repeat constructor); done)); exact rfl) | (apply EvW.ldSeen; exact rfl; exact ScalC.eq; assumption; (first | exact rfl | assumption)) | (apply EvW.ldFld; exact rfl; exact ScalC.eq; assumption; exact fun _ => rfl; omega; exact rfl; exact inferInstance) | (apply EvW.lenL; exact rfl; exact UndC.eq) | (apply EvW.cmpT; exact rfl; exact rfl; exact rfl; omega) | (apply EvW.cmpF; exact rfl; exact rfl; exact rfl; omega) | (apply EvW.cmp; exact rfl; exact rfl; exact rfl) | (apply EvW.pickT; exact rfl; exact rfl) | (apply EvW.pickF; exact rfl; exact rfl) | (apply EvW.seqS; exact rfl; exact rfl) | (apply EvW.seq; exact rfl; exact rfl) | (apply EvW.build; exact PlC.eq; exact ZvC.eq; exact rfl; exact rfl; (focus ((repeat (first | exact Fills.nil | (apply Fills.cons; exact rfl; (first | assumption | exact rfl); exact rfl) | exact SetMany.nil | apply SetMany.cons | apply SetMany.succ)); done))) | (apply EvW.peqN; exact rfl; exact rfl; exact UndC.eq) | (apply EvW.ldStr; exact rfl; exact ScalC.eq; assumption; omega) | (apply EvW.ldStrOwn; exact rfl; exact ScalC.eq; (focus ((repeat constructor); done)); omega) | (apply EvW.lenRow; exact rfl; exact UndC.eq; assumption) | (apply EvW.lenOwn; exact rfl; exact UndC.eq; (focus ((repeat constructor); done))) | (apply EvW.idxRow; exact rfl; exact rfl; exact UndC.eq; exact SzC.eq; assumption; omega; omega) | (apply EvW.idxOwn; exact rfl; exact rfl; exact UndC.eq; exact SzC.eq; (focus ((repeat constructor); done)); omega; omega) | (apply EvW.fldRow; exact rfl; exact FldC.eq; assumption; omega) | (apply EvW.fldOwn; exact rfl; exact FldC.eq; (focus ((repeat constructor); done)); omega) | (apply EvW.ldFldOwn; exact rfl; exact ScalC.eq; (focus ((repeat constructor); done)); exact fun _ => rfl; omega; exact rfl; exact inferInstance)))
    | refine WC.seq ?_ | refine WC.region ?_ | refine WL.nil ?_ | refine WE.next ?_ | refine WC.skip ?_ | refine WC.exit ?_ | refine WE.pass ?_ | refine WE.hit ?_ | refine WE.miss rfl ?_ | refine WE.out ?_ | refine WC.condT rfl ?_ | refine WC.condF rfl ?_ | refine WC.ret ?_ | refine WE.passRet ?_ | refine WE.outRet ?_ | refine WL.wanted rfl rfl rfl ?_ | refine WL.unwanted rfl rfl rfl rfl ?_ | refine WL.unwantedU rfl rfl rfl rfl ?_ | refine WL.unwanted0 rfl rfl rfl ?_
  try refine WL.wanted rfl rfl rfl ?_
  apply WL.callA ([wiresH wb []])
  · exact rfl
  · exact rfl
  · exact fun w => Try.call12 _ w
  · (focus ((repeat constructor); done))
  · exact fun w1 S1 hS1 hs1 ho1 => set_spec wb [] 1 5 w1 S1 hS1
  rintro _ _ ⟨rfl, rfl⟩
  first | refine WL.app4 ?_ | refine WL.app3 ?_ | refine WL.app2 ?_ | refine WL.app1 ?_ | refine WL.app0 ?_ | skip
  rw [if_neg (by decide), set_nil 1 5 (by decide)]
  repeat first
    | (apply WL.q; exact rfl; exact rfl; exact rfl; (first | (apply EvW.move; exact rfl) | (apply EvW.assign; exact rfl) | (apply EvW.fieldAddr0; exact rfl; exact FldC.eq) | (apply EvW.fieldAddr; exact rfl; exact FldC.eq) | (apply EvW.load; exact rfl; exact ScalC.eq; (focus ((repeat constructor); done)); exact rfl) | (apply EvW.ldSeen; exact rfl; exact ScalC.eq; assumption; (first | exact rfl | assumption)) | (apply EvW.ldFld; exact rfl; exact ScalC.eq; assumption; exact fun _ => rfl; omega; exact rfl; exact inferInstance) | (apply EvW.lenL; exact rfl; exact UndC.eq) | (apply EvW.cmpT; exact rfl; exact rfl; exact rfl; omega) | (apply EvW.cmpF; exact rfl; exact rfl; exact rfl; omega) | (apply EvW.cmp; exact rfl; exact rfl; exact rfl) | (apply EvW.pickT; exact rfl; exact rfl) | (apply EvW.pickF; exact rfl; exact rfl) | (apply EvW.seqS; exact rfl; exact rfl) | (apply EvW.seq; exact rfl; exact rfl) | (apply EvW.build; exact PlC.eq; exact ZvC.eq; exact rfl; exact rfl; (focus ((repeat (first | exact Fills.nil | (apply Fills.cons; exact rfl; (first | assumption | exact rfl); exact rfl) | exact SetMany.nil | apply SetMany.cons | apply SetMany.succ)); done))) | (apply EvW.peqN; exact rfl; exact rfl; exact UndC.eq) | (apply EvW.ldStr; exact rfl; exact ScalC.eq; assumption; omega) | (apply EvW.ldStrOwn; exact rfl; exact ScalC.eq; (focus ((repeat constructor); done)); omega) | (apply EvW.lenRow; exact rfl; exact UndC.eq; assumption) | (apply EvW.lenOwn; exact rfl; exact UndC.eq; (focus ((repeat constructor); done))) | (apply EvW.idxRow; exact rfl; exact rfl; exact UndC.eq; exact SzC.eq; assumption; omega; omega) | (apply EvW.idxOwn; exact rfl; exact rfl; exact UndC.eq; exact SzC.eq; (focus ((repeat constructor); done)); omega; omega) | (apply EvW.fldRow; exact rfl; exact FldC.eq; assumption; omega) | (apply EvW.fldOwn; exact rfl; exact FldC.eq; (focus ((repeat constructor); done)); omega) | (apply EvW.ldFldOwn; exact rfl; exact ScalC.eq; (focus ((repeat constructor); done)); exact fun _ => rfl; omega; exact rfl; exact inferInstance)))
    | refine WC.seq ?_ | refine WC.region ?_ | refine WL.nil ?_ | refine WE.next ?_ | refine WC.skip ?_ | refine WC.exit ?_ | refine WE.pass ?_ | refine WE.hit ?_ | refine WE.miss rfl ?_ | refine WE.out ?_ | refine WC.condT rfl ?_ | refine WC.condF rfl ?_ | refine WC.ret ?_ | refine WE.passRet ?_ | refine WE.outRet ?_ | refine WL.wanted rfl rfl rfl ?_ | refine WL.unwanted rfl rfl rfl rfl ?_ | refine WL.unwantedU rfl rfl rfl rfl ?_ | refine WL.unwanted0 rfl rfl rfl ?_
  try refine WL.wanted rfl rfl rfl ?_
  (apply WL.buildSlice; exact rfl; exact UndC.eq; exact SzC.eq; exact ZvC.eq; exact rfl; exact rfl; exact rfl; ((focus ((repeat (first | exact Flat.nil | (apply Flat.one; (first | exact rfl | assumption)) | (apply Flat.cons; exact rfl; exact rfl))); done))); exact rfl; exact rfl; intro k0)
  repeat first
    | (apply WL.q; exact rfl; exact rfl; exact rfl; (first | (apply EvW.move; exact rfl) | (apply EvW.assign; exact rfl) | (apply EvW.fieldAddr0; exact rfl; exact FldC.eq) | (apply EvW.fieldAddr; exact rfl; exact FldC.eq) | (apply EvW.load; exact rfl; exact ScalC.eq; (focus ((repeat constructor); done)); exact rfl) | (apply EvW.ldSeen; exact rfl; exact ScalC.eq; assumption; (first | exact rfl | assumption)) | (apply EvW.ldFld; exact rfl; exact ScalC.eq; assumption; exact fun _ => rfl; omega; exact rfl; exact inferInstance) | (apply EvW.lenL; exact rfl; exact UndC.eq) | (apply EvW.cmpT; exact rfl; exact rfl; exact rfl; omega) | (apply EvW.cmpF; exact rfl; exact rfl; exact rfl; omega) | (apply EvW.cmp; exact rfl; exact rfl; exact rfl) | (apply EvW.pickT; exact rfl; exact rfl) | (apply EvW.pickF; exact rfl; exact rfl) | (apply EvW.seqS; exact rfl; exact rfl) | (apply EvW.seq; exact rfl; exact rfl) | (apply EvW.build; exact PlC.eq; exact ZvC.eq; exact rfl; exact rfl; (focus ((repeat (first | exact Fills.nil | (apply Fills.cons; exact rfl; (first | assumption | exact rfl); exact rfl) | exact SetMany.nil | apply SetMany.cons | apply SetMany.succ)); done))) | (apply EvW.peqN; exact rfl; exact rfl; exact UndC.eq) | (apply EvW.ldStr; exact rfl; exact ScalC.eq; assumption; omega) | (apply EvW.ldStrOwn; exact rfl; exact ScalC.eq; (focus ((repeat constructor); done)); omega) | (apply EvW.lenRow; exact rfl; exact UndC.eq; assumption) | (apply EvW.lenOwn; exact rfl; exact UndC.eq; (focus ((repeat constructor); done))) | (apply EvW.idxRow; exact rfl; exact rfl; exact UndC.eq; exact SzC.eq; assumption; omega; omega) | (apply EvW.idxOwn; exact rfl; exact rfl; exact UndC.eq; exact SzC.eq; (focus ((repeat constructor); done)); omega; omega) | (apply EvW.fldRow; exact rfl; exact FldC.eq; assumption; omega) | (apply EvW.fldOwn; exact rfl; exact FldC.eq; (focus ((repeat constructor); done)); omega) | (apply EvW.ldFldOwn; exact rfl; exact ScalC.eq; (focus ((repeat constructor); done)); exact fun _ => rfl; omega; exact rfl; exact inferInstance)))
    | refine WC.seq ?_ | refine WC.region ?_ | refine WL.nil ?_ | refine WE.next ?_ | refine WC.skip ?_ | refine WC.exit ?_ | refine WE.pass ?_ | refine WE.hit ?_ | refine WE.miss rfl ?_ | refine WE.out ?_ | refine WC.condT rfl ?_ | refine WC.condF rfl ?_ | refine WC.ret ?_ | refine WE.passRet ?_ | refine WE.outRet ?_ | refine WL.wanted rfl rfl rfl ?_ | refine WL.unwanted rfl rfl rfl rfl ?_ | refine WL.unwantedU rfl rfl rfl rfl ?_ | refine WL.unwanted0 rfl rfl rfl ?_
  try refine WL.wanted rfl rfl rfl ?_
  apply WL.callA ([wiresH wb [⟨1, 5, [], []⟩]])
  · exact rfl
  · exact rfl
  · exact fun w => Try.call14 _ w
  · (focus ((repeat constructor); done))
  · exact fun w1 S1 hS1 hs1 ho1 => pass_spec wb [⟨1, 5, [], []⟩] (.slice (some ⟨k0, 0, none⟩) 2 2) (telsOf 1 [[97], [98]]) w1 S1 hS1 ((ho1 (.blk k0 #[i64 1, str [97], i64 1, str [98]] 34) _ (by repeat constructor)).blkRow rfl (fun k u h => by simpa [telsOf, telC] using h) (by decide)) (okx_one (by decide)) (by decide) (fun t h => by simp [telsOf] at h; rcases h with rfl | rfl <;> decide)
  rintro _ _ rfl
  first | refine WL.app4 ?_ | refine WL.app3 ?_ | refine WL.app2 ?_ | refine WL.app1 ?_ | refine WL.app0 ?_ | skip
  rename_i v1
  rw [show passF [⟨1, 5, [], []⟩] (telsOf 1 [[97], [98]]) = ([⟨1, 5, [], [[97], [98]]⟩], []) from pass1 ⟨1, 5, [], []⟩ [[97], [98]]]
  dsimp only
  repeat first
    | (apply WL.q; exact rfl; exact rfl; exact rfl; (first | (apply EvW.move; exact rfl) | (apply EvW.assign; exact rfl) | (apply EvW.fieldAddr0; exact rfl; exact FldC.eq) | (apply EvW.fieldAddr; exact rfl; exact FldC.eq) | (apply EvW.load; exact rfl; exact ScalC.eq; (focus ((repeat constructor); done)); exact rfl) | (apply EvW.ldSeen; exact rfl; exact ScalC.eq; assumption; (first | exact rfl | assumption)) | (apply EvW.ldFld; exact rfl; exact ScalC.eq; assumption; exact fun _ => rfl; omega; exact rfl; exact inferInstance) | (apply EvW.lenL; exact rfl; exact UndC.eq) | (apply EvW.cmpT; exact rfl; exact rfl; exact rfl; omega) | (apply EvW.cmpF; exact rfl; exact rfl; exact rfl; omega) | (apply EvW.cmp; exact rfl; exact rfl; exact rfl) | (apply EvW.pickT; exact rfl; exact rfl) | (apply EvW.pickF; exact rfl; exact rfl) | (apply EvW.seqS; exact rfl; exact rfl) | (apply EvW.seq; exact rfl; exact rfl) | (apply EvW.build; exact PlC.eq; exact ZvC.eq; exact rfl; exact rfl; (focus ((repeat (first | exact Fills.nil | (apply Fills.cons; exact rfl; (first | assumption | exact rfl); exact rfl) | exact SetMany.nil | apply SetMany.cons | apply SetMany.succ)); done))) | (apply EvW.peqN; exact rfl; exact rfl; exact UndC.eq) | (apply EvW.ldStr; exact rfl; exact ScalC.eq; assumption; omega) | (apply EvW.ldStrOwn; exact rfl; exact ScalC.eq; (focus ((repeat constructor); done)); omega) | (apply EvW.lenRow; exact rfl; exact UndC.eq; assumption) | (apply EvW.lenOwn; exact rfl; exact UndC.eq; (focus ((repeat constructor); done))) | (apply EvW.idxRow; exact rfl; exact rfl; exact UndC.eq; exact SzC.eq; assumption; omega; omega) | (apply EvW.idxOwn; exact rfl; exact rfl; exact UndC.eq; exact SzC.eq; (focus ((repeat constructor); done)); omega; omega) | (apply EvW.fldRow; exact rfl; exact FldC.eq; assumption; omega) | (apply EvW.fldOwn; exact rfl; exact FldC.eq; (focus ((repeat constructor); done)); omega) | (apply EvW.ldFldOwn; exact rfl; exact ScalC.eq; (focus ((repeat constructor); done)); exact fun _ => rfl; omega; exact rfl; exact inferInstance)))
    | refine WC.seq ?_ | refine WC.region ?_ | refine WL.nil ?_ | refine WE.next ?_ | refine WC.skip ?_ | refine WC.exit ?_ | refine WE.pass ?_ | refine WE.hit ?_ | refine WE.miss rfl ?_ | refine WE.out ?_ | refine WC.condT rfl ?_ | refine WC.condF rfl ?_ | refine WC.ret ?_ | refine WE.passRet ?_ | refine WE.outRet ?_ | refine WL.wanted rfl rfl rfl ?_ | refine WL.unwanted rfl rfl rfl rfl ?_ | refine WL.unwantedU rfl rfl rfl rfl ?_ | refine WL.unwanted0 rfl rfl rfl ?_
  try refine WL.wanted rfl rfl rfl ?_
  apply WL.callA ([])
  · exact rfl
  · exact rfl
  · exact fun w => Try.call17 _ w
  · (focus ((repeat constructor); done))
  · exact fun w1 S1 hS1 hs1 ho1 => under_spec wb [⟨1, 5, [], [[97], [98]]⟩] w1 S1 hS1 (ho1 (wiresH wb [⟨1, 5, [], [[97], [98]]⟩]) _ (by repeat constructor)) (by decide) (by decide)
  rintro _ _ ⟨rfl, rfl⟩
  first | refine WL.app4 ?_ | refine WL.app3 ?_ | refine WL.app2 ?_ | refine WL.app1 ?_ | refine WL.app0 ?_ | skip
  rw [show (underF [⟨1, 5, [], [[97], [98]]⟩] : Int) = 2 from rfl]
  repeat first
    | (apply WL.q; exact rfl; exact rfl; exact rfl; (first | (apply EvW.move; exact rfl) | (apply EvW.assign; exact rfl) | (apply EvW.fieldAddr0; exact rfl; exact FldC.eq) | (apply EvW.fieldAddr; exact rfl; exact FldC.eq) | (apply EvW.load; exact rfl; exact ScalC.eq; (focus ((repeat constructor); done)); exact rfl) | (apply EvW.ldSeen; exact rfl; exact ScalC.eq; assumption; (first | exact rfl | assumption)) | (apply EvW.ldFld; exact rfl; exact ScalC.eq; assumption; exact fun _ => rfl; omega; exact rfl; exact inferInstance) | (apply EvW.lenL; exact rfl; exact UndC.eq) | (apply EvW.cmpT; exact rfl; exact rfl; exact rfl; omega) | (apply EvW.cmpF; exact rfl; exact rfl; exact rfl; omega) | (apply EvW.cmp; exact rfl; exact rfl; exact rfl) | (apply EvW.pickT; exact rfl; exact rfl) | (apply EvW.pickF; exact rfl; exact rfl) | (apply EvW.seqS; exact rfl; exact rfl) | (apply EvW.seq; exact rfl; exact rfl) | (apply EvW.build; exact PlC.eq; exact ZvC.eq; exact rfl; exact rfl; (focus ((repeat (first | exact Fills.nil | (apply Fills.cons; exact rfl; (first | assumption | exact rfl); exact rfl) | exact SetMany.nil | apply SetMany.cons | apply SetMany.succ)); done))) | (apply EvW.peqN; exact rfl; exact rfl; exact UndC.eq) | (apply EvW.ldStr; exact rfl; exact ScalC.eq; assumption; omega) | (apply EvW.ldStrOwn; exact rfl; exact ScalC.eq; (focus ((repeat constructor); done)); omega) | (apply EvW.lenRow; exact rfl; exact UndC.eq; assumption) | (apply EvW.lenOwn; exact rfl; exact UndC.eq; (focus ((repeat constructor); done))) | (apply EvW.idxRow; exact rfl; exact rfl; exact UndC.eq; exact SzC.eq; assumption; omega; omega) | (apply EvW.idxOwn; exact rfl; exact rfl; exact UndC.eq; exact SzC.eq; (focus ((repeat constructor); done)); omega; omega) | (apply EvW.fldRow; exact rfl; exact FldC.eq; assumption; omega) | (apply EvW.fldOwn; exact rfl; exact FldC.eq; (focus ((repeat constructor); done)); omega) | (apply EvW.ldFldOwn; exact rfl; exact ScalC.eq; (focus ((repeat constructor); done)); exact fun _ => rfl; omega; exact rfl; exact inferInstance)))
    | refine WC.seq ?_ | refine WC.region ?_ | refine WL.nil ?_ | refine WE.next ?_ | refine WC.skip ?_ | refine WC.exit ?_ | refine WE.pass ?_ | refine WE.hit ?_ | refine WE.miss rfl ?_ | refine WE.out ?_ | refine WC.condT rfl ?_ | refine WC.condF rfl ?_ | refine WC.ret ?_ | refine WE.passRet ?_ | refine WE.outRet ?_ | refine WL.wanted rfl rfl rfl ?_ | refine WL.unwanted rfl rfl rfl rfl ?_ | refine WL.unwantedU rfl rfl rfl rfl ?_ | refine WL.unwanted0 rfl rfl rfl ?_
  try refine WL.wanted rfl rfl rfl ?_
  apply WL.callA ([wiresH wb [⟨1, 5, [], [[97], [98]]⟩]])
  · exact rfl
  · exact rfl
  · exact fun w => Try.call12 _ w
  · (focus ((repeat constructor); done))
  · exact fun w1 S1 hS1 hs1 ho1 => set_spec wb [⟨1, 5, [], [[97], [98]]⟩] 1 0 w1 S1 hS1
  rintro _ _ ⟨rfl, rfl⟩
  first | refine WL.app4 ?_ | refine WL.app3 ?_ | refine WL.app2 ?_ | refine WL.app1 ?_ | refine WL.app0 ?_ | skip
  rw [if_neg (by decide), show setF [⟨1, 5, [], [[97], [98]]⟩] 1 0 = [⟨1, 0, [], [[97], [98]]⟩] from set_one ⟨1, 5, [], [[97], [98]]⟩ 0 (by decide)]
  repeat first
    | (apply WL.q; exact rfl; exact rfl; exact rfl; (first | (apply EvW.move; exact rfl) | (apply EvW.assign; exact rfl) | (apply EvW.fieldAddr0; exact rfl; exact FldC.eq) | (apply EvW.fieldAddr; exact rfl; exact FldC.eq) | (apply EvW.load; exact rfl; exact ScalC.eq; (focus ((repeat constructor); done)); exact rfl) | (apply EvW.ldSeen; exact rfl; exact ScalC.eq; assumption; (first | exact rfl | assumption)) | (apply EvW.ldFld; exact rfl; exact ScalC.eq; assumption; exact fun _ => rfl; omega; exact rfl; exact inferInstance) | (apply EvW.lenL; exact rfl; exact UndC.eq) | (apply EvW.cmpT; exact rfl; exact rfl; exact rfl; omega) | (apply EvW.cmpF; exact rfl; exact rfl; exact rfl; omega) | (apply EvW.cmp; exact rfl; exact rfl; exact rfl) | (apply EvW.pickT; exact rfl; exact rfl) | (apply EvW.pickF; exact rfl; exact rfl) | (apply EvW.seqS; exact rfl; exact rfl) | (apply EvW.seq; exact rfl; exact rfl) | (apply EvW.build; exact PlC.eq; exact ZvC.eq; exact rfl; exact rfl; (focus ((repeat (first | exact Fills.nil | (apply Fills.cons; exact rfl; (first | assumption | exact rfl); exact rfl) | exact SetMany.nil | apply SetMany.cons | apply SetMany.succ)); done))) | (apply EvW.peqN; exact rfl; exact rfl; exact UndC.eq) | (apply EvW.ldStr; exact rfl; exact ScalC.eq; assumption; omega) | (apply EvW.ldStrOwn; exact rfl; exact ScalC.eq; (focus ((repeat constructor); done)); omega) | (apply EvW.lenRow; exact rfl; exact UndC.eq; assumption) | (apply EvW.lenOwn; exact rfl; exact UndC.eq; (focus ((repeat constructor); done))) | (apply EvW.idxRow; exact rfl; exact rfl; exact UndC.eq; exact SzC.eq; assumption; omega; omega) | (apply EvW.idxOwn; exact rfl; exact rfl; exact UndC.eq; exact SzC.eq; (focus ((repeat constructor); done)); omega; omega) | (apply EvW.fldRow; exact rfl; exact FldC.eq; assumption; omega) | (apply EvW.fldOwn; exact rfl; exact FldC.eq; (focus ((repeat constructor); done)); omega) | (apply EvW.ldFldOwn; exact rfl; exact ScalC.eq; (focus ((repeat constructor); done)); exact fun _ => rfl; omega; exact rfl; exact inferInstance)))
    | refine WC.seq ?_ | refine WC.region ?_ | refine WL.nil ?_ | refine WE.next ?_ | refine WC.skip ?_ | refine WC.exit ?_ | refine WE.pass ?_ | refine WE.hit ?_ | refine WE.miss rfl ?_ | refine WE.out ?_ | refine WC.condT rfl ?_ | refine WC.condF rfl ?_ | refine WC.ret ?_ | refine WE.passRet ?_ | refine WE.outRet ?_ | refine WL.wanted rfl rfl rfl ?_ | refine WL.unwanted rfl rfl rfl rfl ?_ | refine WL.unwantedU rfl rfl rfl rfl ?_ | refine WL.unwanted0 rfl rfl rfl ?_
  try refine WL.wanted rfl rfl rfl ?_
  (apply WL.buildSlice; exact rfl; exact UndC.eq; exact SzC.eq; exact ZvC.eq; exact rfl; exact rfl; exact rfl; ((focus ((repeat (first | exact Flat.nil | (apply Flat.one; (first | exact rfl | assumption)) | (apply Flat.cons; exact rfl; exact rfl))); done))); exact rfl; exact rfl; intro k1)
  repeat first
    | (apply WL.q; exact rfl; exact rfl; exact rfl; (first | (apply EvW.move; exact rfl) | (apply EvW.assign; exact rfl) | (apply EvW.fieldAddr0; exact rfl; exact FldC.eq) | (apply EvW.fieldAddr; exact rfl; exact FldC.eq) | (apply EvW.load; exact rfl; exact ScalC.eq; (focus ((repeat constructor); done)); exact rfl) | (apply EvW.ldSeen; exact rfl; exact ScalC.eq; assumption; (first | exact rfl | assumption)) | (apply EvW.ldFld; exact rfl; exact ScalC.eq; assumption; exact fun _ => rfl; omega; exact rfl; exact inferInstance) | (apply EvW.lenL; exact rfl; exact UndC.eq) | (apply EvW.cmpT; exact rfl; exact rfl; exact rfl; omega) | (apply EvW.cmpF; exact rfl; exact rfl; exact rfl; omega) | (apply EvW.cmp; exact rfl; exact rfl; exact rfl) | (apply EvW.pickT; exact rfl; exact rfl) | (apply EvW.pickF; exact rfl; exact rfl) | (apply EvW.seqS; exact rfl; exact rfl) | (apply EvW.seq; exact rfl; exact rfl) | (apply EvW.build; exact PlC.eq; exact ZvC.eq; exact rfl; exact rfl; (focus ((repeat (first | exact Fills.nil | (apply Fills.cons; exact rfl; (first | assumption | exact rfl); exact rfl) | exact SetMany.nil | apply SetMany.cons | apply SetMany.succ)); done))) | (apply EvW.peqN; exact rfl; exact rfl; exact UndC.eq) | (apply EvW.ldStr; exact rfl; exact ScalC.eq; assumption; omega) | (apply EvW.ldStrOwn; exact rfl; exact ScalC.eq; (focus ((repeat constructor); done)); omega) | (apply EvW.lenRow; exact rfl; exact UndC.eq; assumption) | (apply EvW.lenOwn; exact rfl; exact UndC.eq; (focus ((repeat constructor); done))) | (apply EvW.idxRow; exact rfl; exact rfl; exact UndC.eq; exact SzC.eq; assumption; omega; omega) | (apply EvW.idxOwn; exact rfl; exact rfl; exact UndC.eq; exact SzC.eq; (focus ((repeat constructor); done)); omega; omega) | (apply EvW.fldRow; exact rfl; exact FldC.eq; assumption; omega) | (apply EvW.fldOwn; exact rfl; exact FldC.eq; (focus ((repeat constructor); done)); omega) | (apply EvW.ldFldOwn; exact rfl; exact ScalC.eq; (focus ((repeat constructor); done)); exact fun _ => rfl; omega; exact rfl; exact inferInstance)))
    | refine WC.seq ?_ | refine WC.region ?_ | refine WL.nil ?_ | refine WE.next ?_ | refine WC.skip ?_ | refine WC.exit ?_ | refine WE.pass ?_ | refine WE.hit ?_ | refine WE.miss rfl ?_ | refine WE.out ?_ | refine WC.condT rfl ?_ | refine WC.condF rfl ?_ | refine WC.ret ?_ | refine WE.passRet ?_ | refine WE.outRet ?_ | refine WL.wanted rfl rfl rfl ?_ | refine WL.unwanted rfl rfl rfl rfl ?_ | refine WL.unwantedU rfl rfl rfl rfl ?_ | refine WL.unwanted0 rfl rfl rfl ?_
  try refine WL.wanted rfl rfl rfl ?_
  apply WL.callA ([wiresH wb [⟨1, 0, [], [[97], [98]]⟩]])
  · exact rfl
  · exact rfl
  · exact fun w => Try.call14 _ w
  · (focus ((repeat constructor); done))
  · exact fun w1 S1 hS1 hs1 ho1 => pass_spec wb [⟨1, 0, [], [[97], [98]]⟩] (.slice (some ⟨k1, 0, none⟩) 1 1) (telsOf 1 [[99]]) w1 S1 hS1 ((ho1 (.blk k1 #[i64 1, str [99]] 34) _ (by repeat constructor)).blkRow rfl (fun k u h => by simpa [telsOf, telC] using h) (by decide)) (okx_one (by decide)) (by decide) (fun t h => by simp [telsOf] at h; subst h; decide)
  rintro _ _ rfl
  first | refine WL.app4 ?_ | refine WL.app3 ?_ | refine WL.app2 ?_ | refine WL.app1 ?_ | refine WL.app0 ?_ | skip
  rename_i v2
  rw [show passF [⟨1, 0, [], [[97], [98]]⟩] (telsOf 1 [[99]]) = ([⟨1, 0, [], []⟩], telsOf 1 [[98], [97], [99]]) from pass1 ⟨1, 0, [], [[97], [98]]⟩ [[99]]]
  dsimp only
  obtain ⟨L, hL⟩ : ∃ L, telsOf 1 [[98], [97], [99]] = L := ⟨_, rfl⟩
  have hl3 : L.length = 3 := by rw [← hL]; rfl
  have hg0 : (L.getD ((0 : Int)).toNat default).2 = [98] := by rw [← hL]; rfl
  have hg2 : (L.getD ((2 : Int)).toNat default).2 = [99] := by rw [← hL]; rfl
  rw [hL]
  repeat first
    | (apply WL.q; exact rfl; exact rfl; exact rfl; (first | (apply EvW.move; exact rfl) | (apply EvW.assign; exact rfl) | (apply EvW.fieldAddr0; exact rfl; exact FldC.eq) | (apply EvW.fieldAddr; exact rfl; exact FldC.eq) | (apply EvW.load; exact rfl; exact ScalC.eq; (focus ((repeat constructor); done)); exact rfl) | (apply EvW.ldSeen; exact rfl; exact ScalC.eq; assumption; (first | exact rfl | assumption)) | (apply EvW.ldFld; exact rfl; exact ScalC.eq; assumption; exact fun _ => rfl; omega; exact rfl; exact inferInstance) | (apply EvW.lenL; exact rfl; exact UndC.eq) | (apply EvW.cmpT; exact rfl; exact rfl; exact rfl; omega) | (apply EvW.cmpF; exact rfl; exact rfl; exact rfl; omega) | (apply EvW.cmp; exact rfl; exact rfl; exact rfl) | (apply EvW.pickT; exact rfl; exact rfl) | (apply EvW.pickF; exact rfl; exact rfl) | (apply EvW.seqS; exact rfl; exact rfl) | (apply EvW.seq; exact rfl; exact rfl) | (apply EvW.build; exact PlC.eq; exact ZvC.eq; exact rfl; exact rfl; (focus ((repeat (first | exact Fills.nil | (apply Fills.cons; exact rfl; (first | assumption | exact rfl); exact rfl) | exact SetMany.nil | apply SetMany.cons | apply SetMany.succ)); done))) | (apply EvW.peqN; exact rfl; exact rfl; exact UndC.eq) | (apply EvW.ldStr; exact rfl; exact ScalC.eq; assumption; omega) | (apply EvW.ldStrOwn; exact rfl; exact ScalC.eq; (focus ((repeat constructor); done)); omega) | (apply EvW.lenRow; exact rfl; exact UndC.eq; assumption) | (apply EvW.lenOwn; exact rfl; exact UndC.eq; (focus ((repeat constructor); done))) | (apply EvW.idxRow; exact rfl; exact rfl; exact UndC.eq; exact SzC.eq; assumption; omega; omega) | (apply EvW.idxOwn; exact rfl; exact rfl; exact UndC.eq; exact SzC.eq; (focus ((repeat constructor); done)); omega; omega) | (apply EvW.fldRow; exact rfl; exact FldC.eq; assumption; omega) | (apply EvW.fldOwn; exact rfl; exact FldC.eq; (focus ((repeat constructor); done)); omega) | (apply EvW.ldFldOwn; exact rfl; exact ScalC.eq; (focus ((repeat constructor); done)); exact fun _ => rfl; omega; exact rfl; exact inferInstance)))
    | refine WC.seq ?_ | refine WC.region ?_ | refine WL.nil ?_ | refine WE.next ?_ | refine WC.skip ?_ | refine WC.exit ?_ | refine WE.pass ?_ | refine WE.hit ?_ | refine WE.miss rfl ?_ | refine WE.out ?_ | refine WC.condT rfl ?_ | refine WC.condF rfl ?_ | refine WC.ret ?_ | refine WE.passRet ?_ | refine WE.outRet ?_ | refine WL.wanted rfl rfl rfl ?_ | refine WL.unwanted rfl rfl rfl rfl ?_ | refine WL.unwantedU rfl rfl rfl rfl ?_ | refine WL.unwanted0 rfl rfl rfl ?_
  rw [hg0, decide_eq_true (rfl : ([98] : Txt) = [98])]
  repeat first
    | (apply WL.q; exact rfl; exact rfl; exact rfl; (first | (apply EvW.move; exact rfl) | (apply EvW.assign; exact rfl) | (apply EvW.fieldAddr0; exact rfl; exact FldC.eq) | (apply EvW.fieldAddr; exact rfl; exact FldC.eq) | (apply EvW.load; exact rfl; exact ScalC.eq; (focus ((repeat constructor); done)); exact rfl) | (apply EvW.ldSeen; exact rfl; exact ScalC.eq; assumption; (first | exact rfl | assumption)) | (apply EvW.ldFld; exact rfl; exact ScalC.eq; assumption; exact fun _ => rfl; omega; exact rfl; exact inferInstance) | (apply EvW.lenL; exact rfl; exact UndC.eq) | (apply EvW.cmpT; exact rfl; exact rfl; exact rfl; omega) | (apply EvW.cmpF; exact rfl; exact rfl; exact rfl; omega) | (apply EvW.cmp; exact rfl; exact rfl; exact rfl) | (apply EvW.pickT; exact rfl; exact rfl) | (apply EvW.pickF; exact rfl; exact rfl) | (apply EvW.seqS; exact rfl; exact rfl) | (apply EvW.seq; exact rfl; exact rfl) | (apply EvW.build; exact PlC.eq; exact ZvC.eq; exact rfl; exact rfl; (focus ((repeat (first | exact Fills.nil | (apply Fills.cons; exact rfl; (first | assumption | exact rfl); exact rfl) | exact SetMany.nil | apply SetMany.cons | apply SetMany.succ)); done))) | (apply EvW.peqN; exact rfl; exact rfl; exact UndC.eq) | (apply EvW.ldStr; exact rfl; exact ScalC.eq; assumption; omega) | (apply EvW.ldStrOwn; exact rfl; exact ScalC.eq; (focus ((repeat constructor); done)); omega) | (apply EvW.lenRow; exact rfl; exact UndC.eq; assumption) | (apply EvW.lenOwn; exact rfl; exact UndC.eq; (focus ((repeat constructor); done))) | (apply EvW.idxRow; exact rfl; exact rfl; exact UndC.eq; exact SzC.eq; assumption; omega; omega) | (apply EvW.idxOwn; exact rfl; exact rfl; exact UndC.eq; exact SzC.eq; (focus ((repeat constructor); done)); omega; omega) | (apply EvW.fldRow; exact rfl; exact FldC.eq; assumption; omega) | (apply EvW.fldOwn; exact rfl; exact FldC.eq; (focus ((repeat constructor); done)); omega) | (apply EvW.ldFldOwn; exact rfl; exact ScalC.eq; (focus ((repeat constructor); done)); exact fun _ => rfl; omega; exact rfl; exact inferInstance)))
    | refine WC.seq ?_ | refine WC.region ?_ | refine WL.nil ?_ | refine WE.next ?_ | refine WC.skip ?_ | refine WC.exit ?_ | refine WE.pass ?_ | refine WE.hit ?_ | refine WE.miss rfl ?_ | refine WE.out ?_ | refine WC.condT rfl ?_ | refine WC.condF rfl ?_ | refine WC.ret ?_ | refine WE.passRet ?_ | refine WE.outRet ?_ | refine WL.wanted rfl rfl rfl ?_ | refine WL.unwanted rfl rfl rfl rfl ?_ | refine WL.unwantedU rfl rfl rfl rfl ?_ | refine WL.unwanted0 rfl rfl rfl ?_
  rw [hg2, decide_eq_true (rfl : ([99] : Txt) = [99])]
  repeat first
    | (apply WL.q; exact rfl; exact rfl; exact rfl; (first | (apply EvW.move; exact rfl) | (apply EvW.assign; exact rfl) | (apply EvW.fieldAddr0; exact rfl; exact FldC.eq) | (apply EvW.fieldAddr; exact rfl; exact FldC.eq) | (apply EvW.load; exact rfl; exact ScalC.eq; (focus ((repeat constructor); done)); exact rfl) | (apply EvW.ldSeen; exact rfl; exact ScalC.eq; assumption; (first | exact rfl | assumption)) | (apply EvW.ldFld; exact rfl; exact ScalC.eq; assumption; exact fun _ => rfl; omega; exact rfl; exact inferInstance) | (apply EvW.lenL; exact rfl; exact UndC.eq) | (apply EvW.cmpT; exact rfl; exact rfl; exact rfl; omega) | (apply EvW.cmpF; exact rfl; exact rfl; exact rfl; omega) | (apply EvW.cmp; exact rfl; exact rfl; exact rfl) | (apply EvW.pickT; exact rfl; exact rfl) | (apply EvW.pickF; exact rfl; exact rfl) | (apply EvW.seqS; exact rfl; exact rfl) | (apply EvW.seq; exact rfl; exact rfl) | (apply EvW.build; exact PlC.eq; exact ZvC.eq; exact rfl; exact rfl; (focus ((repeat (first | exact Fills.nil | (apply Fills.cons; exact rfl; (first | assumption | exact rfl); exact rfl) | exact SetMany.nil | apply SetMany.cons | apply SetMany.succ)); done))) | (apply EvW.peqN; exact rfl; exact rfl; exact UndC.eq) | (apply EvW.ldStr; exact rfl; exact ScalC.eq; assumption; omega) | (apply EvW.ldStrOwn; exact rfl; exact ScalC.eq; (focus ((repeat constructor); done)); omega) | (apply EvW.lenRow; exact rfl; exact UndC.eq; assumption) | (apply EvW.lenOwn; exact rfl; exact UndC.eq; (focus ((repeat constructor); done))) | (apply EvW.idxRow; exact rfl; exact rfl; exact UndC.eq; exact SzC.eq; assumption; omega; omega) | (apply EvW.idxOwn; exact rfl; exact rfl; exact UndC.eq; exact SzC.eq; (focus ((repeat constructor); done)); omega; omega) | (apply EvW.fldRow; exact rfl; exact FldC.eq; assumption; omega) | (apply EvW.fldOwn; exact rfl; exact FldC.eq; (focus ((repeat constructor); done)); omega) | (apply EvW.ldFldOwn; exact rfl; exact ScalC.eq; (focus ((repeat constructor); done)); exact fun _ => rfl; omega; exact rfl; exact inferInstance)))
    | refine WC.seq ?_ | refine WC.region ?_ | refine WL.nil ?_ | refine WE.next ?_ | refine WC.skip ?_ | refine WC.exit ?_ | refine WE.pass ?_ | refine WE.hit ?_ | refine WE.miss rfl ?_ | refine WE.out ?_ | refine WC.condT rfl ?_ | refine WC.condF rfl ?_ | refine WC.ret ?_ | refine WE.passRet ?_ | refine WE.outRet ?_ | refine WL.wanted rfl rfl rfl ?_ | refine WL.unwanted rfl rfl rfl rfl ?_ | refine WL.unwantedU rfl rfl rfl rfl ?_ | refine WL.unwanted0 rfl rfl rfl ?_
  try refine WL.wanted rfl rfl rfl ?_
  apply WL.callA ([])
  · exact rfl
  · exact rfl
  · exact fun w => Try.call17 _ w
  · (focus ((repeat constructor); done))
  · exact fun w1 S1 hS1 hs1 ho1 => under_spec wb [⟨1, 0, [], []⟩] w1 S1 hS1 (ho1 (wiresH wb [⟨1, 0, [], []⟩]) _ (by repeat constructor)) (by decide) (by decide)
  rintro _ _ ⟨rfl, rfl⟩
  first | refine WL.app4 ?_ | refine WL.app3 ?_ | refine WL.app2 ?_ | refine WL.app1 ?_ | refine WL.app0 ?_ | skip
  rw [show (underF [⟨1, 0, [], []⟩] : Int) = 0 from rfl]
  repeat first
    | (apply WL.q; exact rfl; exact rfl; exact rfl; (first | (apply EvW.move; exact rfl) | (apply EvW.assign; exact rfl) | (apply EvW.fieldAddr0; exact rfl; exact FldC.eq) | (apply EvW.fieldAddr; exact rfl; exact FldC.eq) | (apply EvW.load; exact rfl; exact ScalC.eq; (focus ((repeat constructor); done)); exact rfl) | (apply EvW.ldSeen; exact rfl; exact ScalC.eq; assumption; (first | exact rfl | assumption)) | (apply EvW.ldFld; exact rfl; exact ScalC.eq; assumption; exact fun _ => rfl; omega; exact rfl; exact inferInstance) | (apply EvW.lenL; exact rfl; exact UndC.eq) | (apply EvW.cmpT; exact rfl; exact rfl; exact rfl; omega) | (apply EvW.cmpF; exact rfl; exact rfl; exact rfl; omega) | (apply EvW.cmp; exact rfl; exact rfl; exact rfl) | (apply EvW.pickT; exact rfl; exact rfl) | (apply EvW.pickF; exact rfl; exact rfl) | (apply EvW.seqS; exact rfl; exact rfl) | (apply EvW.seq; exact rfl; exact rfl) | (apply EvW.build; exact PlC.eq; exact ZvC.eq; exact rfl; exact rfl; (focus ((repeat (first | exact Fills.nil | (apply Fills.cons; exact rfl; (first | assumption | exact rfl); exact rfl) | exact SetMany.nil | apply SetMany.cons | apply SetMany.succ)); done))) | (apply EvW.peqN; exact rfl; exact rfl; exact UndC.eq) | (apply EvW.ldStr; exact rfl; exact ScalC.eq; assumption; omega) | (apply EvW.ldStrOwn; exact rfl; exact ScalC.eq; (focus ((repeat constructor); done)); omega) | (apply EvW.lenRow; exact rfl; exact UndC.eq; assumption) | (apply EvW.lenOwn; exact rfl; exact UndC.eq; (focus ((repeat constructor); done))) | (apply EvW.idxRow; exact rfl; exact rfl; exact UndC.eq; exact SzC.eq; assumption; omega; omega) | (apply EvW.idxOwn; exact rfl; exact rfl; exact UndC.eq; exact SzC.eq; (focus ((repeat constructor); done)); omega; omega) | (apply EvW.fldRow; exact rfl; exact FldC.eq; assumption; omega) | (apply EvW.fldOwn; exact rfl; exact FldC.eq; (focus ((repeat constructor); done)); omega) | (apply EvW.ldFldOwn; exact rfl; exact ScalC.eq; (focus ((repeat constructor); done)); exact fun _ => rfl; omega; exact rfl; exact inferInstance)))
    | refine WC.seq ?_ | refine WC.region ?_ | refine WL.nil ?_ | refine WE.next ?_ | refine WC.skip ?_ | refine WC.exit ?_ | refine WE.pass ?_ | refine WE.hit ?_ | refine WE.miss rfl ?_ | refine WE.out ?_ | refine WC.condT rfl ?_ | refine WC.condF rfl ?_ | refine WC.ret ?_ | refine WE.passRet ?_ | refine WE.outRet ?_ | refine WL.wanted rfl rfl rfl ?_ | refine WL.unwanted rfl rfl rfl rfl ?_ | refine WL.unwantedU rfl rfl rfl rfl ?_ | refine WL.unwanted0 rfl rfl rfl ?_
  refine WE.keep (xs := []) (by repeat constructor) ?_
  refine WE.ret1 rfl rfl ?_
  exact ⟨rfl, rfl⟩
end Go.Proofs.Ytoaajdmacngnjaa
namespace Go.BK
open Go.RowKit
end Go.BK
namespace Go.Proofs.Ytoaajdmacngnjaa
open Go.RowKit Go.BK
/-- A step of a script: a mode is set, or telegrams go in. -/
structure OpW where
  set : Bool
  p : Int
  m : Int
  v : Value
  ls : List Tel
instance : Inhabited OpW := ⟨⟨false, 0, 0, .slice none 0 0, []⟩⟩
def opWC (o : OpW) : List Value := [.bool o.set, i64 o.p, i64 o.m, o.v]
structure OpW.Good (o : OpW) (w : World) (S : BSet) : Prop where
  row : Sees w S (.row 2 o.v o.ls.length (o.ls.flatMap telC))
  wp : (Lit.int .i64 o.p).wf = true
  wt : ∀ t ∈ o.ls, (Lit.int .i64 t.1).wf = true ∧ t.2.length ≤ 140737488355328
def opMuW (o : OpW) : Nat := o.ls.length + 1
def muW (os : List OpW) : Nat := (os.map opMuW).sum
structure Inv (n : Nat) (xs : List Wr) : Prop where
  nodup : (xs.map (·.p)).Nodup
  wf : ∀ q ∈ xs, (Lit.int .i64 q.p).wf = true
  len : xs.length ≤ n
  und : underF xs ≤ n
theorem Inv.ok {n : Nat} {xs : List Wr} (h : Inv n xs) (hn : n ≤ 1099511627776) : Okx xs := ⟨h.nodup, h.wf, Nat.le_trans h.len hn⟩
theorem ixW_none : ∀ (xs : List Wr) (p : Int), ¬ ixW xs p < xs.length → p ∉ xs.map (·.p)
  | [], _, _, h => by cases h
  | q :: r, p, h, hm => by
    unfold ixW at h
    by_cases e : p = q.p
    · rw [if_pos e] at h; exact h (by simp)
    · rw [if_neg e] at h
      rcases List.mem_cons.1 hm with hm | hm
      · exact e hm
      · exact ixW_none r p (fun h' => h (by simp only [List.length_cons]; omega)) hm
theorem inv_of {n : Nat} {xs : List Wr} {p : Int} (h : Inv n xs) (hp : (Lit.int .i64 p).wf = true) : Inv (n + 1) (ofF xs p) := by
  have hu := under_of xs p
  have h1 := h.len
  have h2 := h.und
  by_cases e : ixW xs p < xs.length
  · have e2 : ofF xs p = xs := by unfold ofF; rw [if_pos e]
    rw [e2] at hu ⊢
    exact ⟨h.nodup, h.wf, by omega, by omega⟩
  · have e2 : ofF xs p = xs ++ [newW p] := by unfold ofF; rw [if_neg e]
    rw [e2] at hu ⊢
    refine ⟨?_, fun q hq => ?_, by rw [List.length_append, List.length_singleton]; omega, by omega⟩
    · rw [List.map_append]
      refine List.nodup_append.2 ⟨h.nodup, by simp, fun a ha b hb => ?_⟩
      rw [List.map_singleton, List.mem_singleton] at hb
      intro e3
      rw [hb] at e3
      exact ixW_none xs p e (by rw [show p = (newW p).p from rfl, ← e3]; exact ha)
    · rcases List.mem_append.1 hq with hq | hq
      · exact h.wf q hq
      · rw [List.mem_singleton] at hq; subst hq; exact hp
theorem ofF_p (xs : List Wr) (p : Int) : ((ofF xs p).getD (ixW xs p) default).p = p := by
  by_cases e : ixW xs p < xs.length
  · have e2 : ofF xs p = xs := by unfold ofF; rw [if_pos e]
    rw [e2]
    by_cases hm : p ∈ xs.map (·.p)
    · exact (ixW_mem xs p hm).2
    · exfalso
      exact hm (by
        clear e2 hm
        induction xs with
        | nil => simp at e
        | cons q r ih =>
          unfold ixW at e
          by_cases e4 : p = q.p
          · rw [e4]; simp
          · rw [if_neg e4] at e
            have := ih (by simp only [List.length_cons] at e; omega)
            rw [List.map_cons]; exact List.mem_cons_of_mem _ this)
  · have e2 : ofF xs p = xs ++ [newW p] := by unfold ofF; rw [if_neg e]
    have h1 := ixW_le xs p
    rw [e2, List.getD_eq_getElem?_getD, List.getElem?_append_right (by omega), show ixW xs p - xs.length = 0 by omega]
    rfl
theorem getD_atW {l : List Wr} {i : Nat} (h : i < l.length) : l.getD i default = l[i] := by rw [List.getD_eq_getElem?_getD, List.getElem?_eq_getElem h]; rfl
theorem map_set_p {xs : List Wr} {i : Nat} {q : Wr} (h : i < xs.length) (hq : q.p = (xs.getD i default).p) : (xs.set i q).map (·.p) = xs.map (·.p) := by
  rw [List.map_set, hq]
  apply List.ext_getElem (by simp)
  intro j h1 h2
  rw [List.getElem_set]
  split
  · rename_i e
    subst e
    rw [List.getElem_map, getD_atW h]
  · rfl
theorem inv_set {n : Nat} {xs : List Wr} {i k : Nat} {q : Wr} (h : Inv n xs) (hi : i < xs.length) (hq : q.p = (xs.getD i default).p) (hs : wSize q ≤ wSize (xs.getD i default) + k) : Inv (n + k) (xs.set i q) := by
  have h1 := h.len
  have h2 := h.und
  have h3 := under_set xs i q k hi hs
  have hm := map_set_p hi hq
  refine ⟨by rw [hm]; exact h.nodup, fun r hr => ?_, by rw [List.length_set]; omega, by omega⟩
  have : r.p ∈ (xs.set i q).map (·.p) := List.mem_map.2 ⟨r, hr, rfl⟩
  rw [hm] at this
  obtain ⟨r', hr', e⟩ := List.mem_map.1 this
  rw [← e]; exact h.wf r' hr'
theorem inv_setF {n : Nat} {xs : List Wr} {p m : Int} (h : Inv n xs) (hp : (Lit.int .i64 p).wf = true) : Inv (n + 1) (setF xs p m) := by
  unfold setF
  split
  · exact ⟨h.nodup, h.wf, Nat.le_succ_of_le h.len, Nat.le_succ_of_le h.und⟩
  · exact inv_set (k := 0) (inv_of h hp) (ixW_ofF xs p) rfl (Nat.le_refl _)
theorem inv_step {n : Nat} {s : List Wr × List Tel} {t : Tel} (h : Inv n s.1) (hp : (Lit.int .i64 t.1).wf = true) : Inv (n + 1) (stepF s t).1 := by
  have h1 := inv_of h hp
  have h2 := inv_set (k := 1) h1 (ixW_ofF s.1 t.1) (inW_p ((ofF s.1 t.1).getD (ixW s.1 t.1) default) t.2) (inW_le _ _)
  refine ⟨h2.nodup, h2.wf, ?_, ?_⟩
  · show ((ofF s.1 t.1).set _ _).length ≤ _
    rw [List.length_set]; exact h1.len
  · have := (step_le s t).1
    have := h.und
    omega
theorem inv_pass {n : Nat} {xs : List Wr} {l : List Tel} (h : Inv n xs) (hp : ∀ t ∈ l, (Lit.int .i64 t.1).wf = true) : Inv (n + l.length) (passF xs l).1 := by
  have h0 : Inv n (xs.map readyW) := by
    have hm : (xs.map readyW).map (·.p) = xs.map (·.p) := by rw [List.map_map]; rfl
    refine ⟨by rw [hm]; exact h.nodup, fun q hq => ?_, by rw [List.length_map]; exact h.len, Nat.le_trans (under_ready xs) h.und⟩
    obtain ⟨r, hr, rfl⟩ := List.mem_map.1 hq
    exact h.wf r hr
  unfold passF
  have key : ∀ (l : List Tel) (s : List Wr × List Tel) (n : Nat), Inv n s.1 → (∀ t ∈ l, (Lit.int .i64 t.1).wf = true) → Inv (n + l.length) (l.foldl stepF s).1 := by
    intro l
    induction l with
    | nil => intro s n h _; exact h
    | cons t l ih =>
      intro s n h hp
      rw [List.foldl_cons, List.length_cons]
      have := ih (stepF s t) (n + 1) (inv_step h (hp t (by simp))) (fun t' ht' => hp t' (by simp [ht']))
      rw [show n + (l.length + 1) = n + 1 + l.length by omega]; exact this
  exact key l _ n h0 hp
end Go.Proofs.Ytoaajdmacngnjaa
namespace Go.Proofs.Ytoaajdmacngnjaa
open Go.RowKit Go.BK Go.ChangeShapes Go.WideShapes Go.ChangeAt Go.ChangeMaps Go.Deep
section
variable {H : Type} {enc : TypeId × Value → H} {P : Program} {W : World}
/-- What is read as type e is f of something of which Q holds, and whose measure is at most the reading's bulk. -/
def OpensU (enc : TypeId × Value → H) (P : Program) (W : World) (e : TypeId) {α : Type} (f : α → List Value) (Q : α → Prop) (μ : α → Nat) : Prop :=
  ∀ n cs x, DataW.trod enc P W 0 (fun _ => true) true n e cs = some x → ∃ a, cs = f a ∧ Q a ∧ μ a ≤ Rows.uptoBulk x.1
theorem OpensU.map {e : TypeId} {α β : Type} {f : α → List Value} {Q : α → Prop} {μ : α → Nat} {f' : β → List Value} {Q' : β → Prop} {μ' : β → Nat} (h : OpensU enc P W e f Q μ) (g : α → β) (hf : ∀ a, Q a → f a = f' (g a)) (hQ : ∀ a, Q a → Q' (g a)) (hμ : ∀ a, Q a → μ' (g a) ≤ μ a) : OpensU enc P W e f' Q' μ' :=
  fun n cs x hx => by
    obtain ⟨a, h1, h2, h3⟩ := h n cs x hx
    exact ⟨g a, by rw [h1, hf a h2], hQ a h2, Nat.le_trans (hμ a h2) h3⟩
theorem OpensU.int {e : TypeId} {k : IntKind} (hu : P.underlying e = some (.int k)) : OpensU enc P W e (fun a : Int => [.int k a]) (fun a => (Lit.int k a).wf = true) (fun _ => 1) :=
  fun n cs x hx => by
    obtain ⟨a, h1, h3, h2⟩ := DataW.trod_int hu hx
    exact ⟨a, h1, h2, by rw [h3]; simp [Rows.uptoBulk]⟩
theorem OpensU.bool {e : TypeId} (hu : P.underlying e = some .bool) : OpensU enc P W e (fun a : Bool => [.bool a]) (fun _ => True) (fun _ => 1) :=
  fun n cs x hx => by
    obtain ⟨a, h1, h3⟩ := DataW.trod_bool hu hx
    exact ⟨a, h1, trivial, by rw [h3]; simp [Rows.uptoBulk]⟩
theorem OpensU.str {e : TypeId} (hu : P.underlying e = some .string) : OpensU enc P W e (fun l : List UInt8 => [str l]) (fun _ => True) (fun l => l.length + 1) :=
  fun n cs x hx => by
    obtain ⟨s, h1, h2, _⟩ := DataW.trod_string hu hx
    exact ⟨s.data.toList, by rw [h1], trivial, by rw [h2]; simp [Rows.uptoBulk]⟩
theorem bulk_sum {α : Type} {μ : α → Nat} {D : Nat → DataW H} : ∀ {xs : List α} {m : Nat}, (∀ i a, xs[i]? = some a → μ a ≤ Rows.uptoBulk (D (m + i))) → (xs.map μ).sum ≤ Rows.uptoBulkAll ((List.range' m xs.length).map D) := by
  intro xs
  induction xs with
  | nil => intro m _; simp [Rows.uptoBulkAll]
  | cons x r ih =>
    intro m h
    have h0 := h 0 x rfl
    have := ih (m := m + 1) fun i a hi => by
      have := h (i + 1) a (by simpa using hi)
      rwa [Nat.add_assoc, Nat.add_comm 1 i]
    simp only [List.map_cons, List.sum_cons, List.length_cons, List.range'_succ, Rows.uptoBulkAll]
    rw [Nat.add_zero] at h0
    omega
theorem OpensU.slice {t e : TypeId} {sz : Nat} {α : Type} {f : α → List Value} {Q : α → Prop} {μ : α → Nat} (ht : P.underlying t = some (.slice e)) (hsz : P.cellsOf e = sz) (hpos : 0 < sz) (hf : ∀ a, (f a).length = sz) (h : OpensU enc P W e f Q μ) :
    OpensU enc P W t (fun p : Value × List α => [p.1]) (fun p => Sees W (fun _ => False) (.row sz p.1 p.2.length (p.2.flatMap f)) ∧ ∀ x ∈ p.2, Q x) (fun p => (p.2.map μ).sum + 1) := by
  intro n cs x hx
  rcases open_slice ht hx with ⟨h1, h2⟩ | ⟨a, len, cap, m, n', D, Pl, rfl, _, hl, _, hmm, rfl, hel⟩
  · exact ⟨(.slice none 0 0, []), h1, ⟨Sees.nilRow, fun x hx => by cases hx⟩, by rw [h2]; simp [Rows.uptoBulk]⟩
  · simp only [↓reduceIte] at hmm
    subst hmm
    have hmem : ∀ i, i < len → ∃ q : α, (∃ cs', W.cells? 0 (a.add (i * P.cellsOf e)) (P.cellsOf e) = some cs' ∧ cs' = f q) ∧ Q q ∧ μ q ≤ Rows.uptoBulk (D i) := fun i hi => by
      obtain ⟨cs', h1, h2⟩ := hel i (by omega)
      obtain ⟨q, h3, h4⟩ := h n' cs' _ h2
      exact ⟨q, ⟨cs', h1, h3⟩, h4⟩
    obtain ⟨xs, hxl, hxs⟩ := exists_list len hmem
    refine ⟨(.slice (some a) len m, xs), rfl, ⟨?_, fun q hq => ?_⟩, ?_⟩
    · simp only []
      rw [hxl]
      have hfl : (xs.flatMap f).length = len * sz := by rw [flat_length hf, hxl]
      refine row_of_cells hfl hl hpos fun k u hk => ?_
      obtain ⟨i, j, q, h1, h2, h3, h4⟩ := flat_at hf hk
      obtain ⟨⟨cs', h5, h6⟩, _⟩ := hxs i q h3
      obtain ⟨_, hlen, hcell⟩ := World.cells?_some h5
      have := hcell j (by rw [hsz]; exact h2)
      rw [add_add, hsz, ← h1] at this
      rw [this, h6, h4]
    · obtain ⟨i, hi, rfl⟩ := List.getElem_of_mem hq
      exact (hxs i _ (List.getElem?_eq_getElem hi)).2.1
    · have := bulk_sum (μ := μ) (D := D) (xs := xs) (m := 0) fun i a hi => by rw [Nat.zero_add]; exact (hxs i a hi).2.2
      rw [hxl, ← List.range_eq_range'] at this
      simp only [Rows.uptoBulk]
      omega
/-- Fields, from a place on. -/
def FOU (enc : TypeId × Value → H) (P : Program) (W : World) (off : Nat) (fs : List Field) {α : Type} (f : α → List Value) (Q : α → Prop) (μ : α → Nat) : Prop :=
  ∀ n (cs : List Value) (xs : List (DataW H × List MemPlace)), cs.length = off + (fs.map fun g => P.cellsOf g.type).sum → xs.length = fs.length →
    (∀ (i : Nat) (g : Field), fs[i]? = some g → DataW.trod enc P W 0 (fun _ => true) true n g.type ((cs.drop g.offset).take (P.cellsOf g.type)) = xs[i]?) → ∃ a, cs.drop off = f a ∧ Q a ∧ μ a ≤ Rows.uptoBulkAll (xs.map (·.1))
theorem FOU.nil {off : Nat} : FOU enc P W off [] (fun _ : Unit => []) (fun _ => True) (fun _ => 0) := fun n cs xs hl _ _ => ⟨(), by simp at hl; simp [hl], trivial, Nat.zero_le _⟩
theorem FOU.cons {off off' : Nat} {g : Field} {fs : List Field} {α β : Type} {f1 : α → List Value} {Q1 : α → Prop} {μ1 : α → Nat} {f2 : β → List Value} {Q2 : β → Prop} {μ2 : β → Nat} (h1 : OpensU enc P W g.type f1 Q1 μ1) (ho : g.offset = off) (hoff : off + P.cellsOf g.type = off') (h2 : FOU enc P W off' fs f2 Q2 μ2) :
    FOU enc P W off (g :: fs) (fun p : α × β => f1 p.1 ++ f2 p.2) (fun p => Q1 p.1 ∧ Q2 p.2) (fun p => μ1 p.1 + μ2 p.2) := by
  intro n cs xs hl hxl hx
  cases xs with
  | nil => simp at hxl
  | cons x xs =>
    subst hoff
    obtain ⟨a, ha, qa, ma⟩ := h1 n _ x (hx 0 g rfl)
    obtain ⟨b, hb, qb, mb⟩ := h2 n cs xs (by simp at hl; omega) (by simpa using hxl) (fun i g' hg => by simpa using hx (i + 1) g' (by simpa using hg))
    refine ⟨(a, b), ?_, ⟨qa, qb⟩, by simp only [List.map_cons, Rows.uptoBulkAll]; omega⟩
    simp only []
    rw [← ha, ← hb, ho, ← List.drop_drop, List.take_append_drop]
theorem OpensU.struct {t : TypeId} {fs : Array Field} {α : Type} {f : α → List Value} {Q : α → Prop} {μ : α → Nat} (hu : P.underlying t = some (.struct fs)) (hc : P.cellsOf t = (fs.toList.map fun g => P.cellsOf g.type).sum) (h : FOU enc P W 0 fs.toList f Q μ) : OpensU enc P W t f Q (fun a => μ a + 1) := by
  intro n cs x hx
  obtain ⟨xs, n', _, rfl, hl, hxl, hel⟩ := DataW.trod_struct hu hx
  obtain ⟨a, h1, h2, h3⟩ := h n' cs xs (by rw [hl, hc]; omega) (by simpa using hxl) (fun i g hg => hel i g (by simpa using hg))
  exact ⟨a, by simpa using h1, h2, by simp only [Rows.uptoBulk]; omega⟩
/-- An argument, opened. -/
theorem OpensU.arg {t : TypeId} {α : Type} {f : α → List Value} {Q : α → Prop} {μ : α → Nat} (h : OpensU enc P W t f Q μ) {v : Value} {d : DataW H} {ps : List MemPlace} (hd : DataW.Trod enc P W 0 (fun _ => true) true t v d ps) : ∃ a, v.cells.toList = f a ∧ Q a ∧ μ a ≤ Rows.uptoBulk d := by
  obtain ⟨n, hn⟩ := hd
  exact h n _ _ hn
theorem argU_slice {t e : TypeId} {sz : Nat} {α : Type} {f : α → List Value} {Q : α → Prop} {μ : α → Nat} (ht : P.underlying t = some (.slice e)) (hsz : P.cellsOf e = sz) (hpos : 0 < sz) (hf : ∀ a, (f a).length = sz) (h : OpensU enc P W e f Q μ)
    {base : Nat} {v : Value} {d : DataW H} {ps : List MemPlace} (hval : Value.okWide P W .any base t v) (hd : DataW.Trod enc P W 0 (fun _ => true) true t v d ps) :
    ∃ xs : List α, Sees W (fun _ => False) (.row sz v xs.length (xs.flatMap f)) ∧ (∀ x ∈ xs, Q x) ∧ (xs.map μ).sum + 1 ≤ Rows.uptoBulk d := by
  obtain ⟨a0, len, cap, rfl⟩ := okWide_slice ht hval
  obtain ⟨⟨u, xs⟩, h1, ⟨h2, h3⟩, h4⟩ := (OpensU.slice ht hsz hpos hf h).arg hd
  have : u = .slice a0 len cap := by simpa [Value.cells] using h1.symm
  subst this
  exact ⟨xs, h2, h3, h4⟩
/-- A law of the second form: its call answers true, and turns nothing that was there. -/
theorem law_liftedU {C : Checked} {os : Os} {f : FuncId} {fn : Func} {s : ChangeSpec} {F : Stop.Interp} {conds : List PathCond} {tb : TypeId}
    (own : ownKnob C.prog.godebug = none) (started : os.Started) (noInit : C.prog.inits.idxOf? f = none) (hfn : C.prog.funcs[f]? = some fn) (hb : fn.resultTypes = #[tb]) (hub : C.prog.underlying tb = some .bool) (hv : s.vars = [])
    (hl : laidOutB C.prog = true) (hread : (fn.params.toList.all fun t => C.prog.readableRec t && decide (t < C.prog.types.size)) = true)
    (hs : ∀ ds : List (DataW H), ds.length = fn.params.toList.length → s.fn H ds = { results := [.lit (.bool true)], args := ds })
    (witness : ∃ (w : World) (tape : Tape) (i : Input), w.os = os ∧ (w.forCall tape i).Shaped C.prog ∧ i.vars = [] ∧ Input.okWide C.prog (w.forCall tape i) .any w.heap.size f i ∧
      (Rows.OpenSpec.upto s).pre6 enc C.prog fn conds false (w.forCall tape i).memory i.args ∧ (({} : Assume)).holds C.prog (lone (Frame.enter C.prog f i.args .normal) [] (w.forCall tape i)))
    (contract : ∀ (W : World) (base : Nat) (args : Array Value) (ds : List (DataW H)) (p : List MemPlace),
      (∀ (j : Nat) t v, fn.params[j]? = some t → args[j]? = some v → Value.okWide C.prog W .any base t v) → DataW.TrodAll enc C.prog W 0 (fun _ => true) true fn.params.toList args.toList ds p →
      Rows.uptoBulkAll ds ≤ 1048576 → Calls C.prog f args W fun e W' => e = .returned (.bool true) ∧ Below W.heap.size W W') :
    ReturnsInHanded {} C os f .any ((Rows.OpenSpec.upto s).pre6 enc C.prog fn conds false) (((Rows.OpenSpec.upto s).at F).post enc C.prog fn false true false false) := by
  refine returnsInHanded_of_cond (s := Rows.OpenSpec.upto s) (k := Rows.uptoSmall) rfl own started noInit hfn witness ?_
  intro W base args ds gs before hval hW _ hk _
  have hW' := hW
  obtain ⟨p, q, hA, hV, rfl, _, _⟩ := hW
  rw [show (Rows.OpenSpec.upto s).vars = s.vars from rfl, hv] at hV
  obtain ⟨rfl, rfl⟩ := trodVars_none hV
  have hbulk : Rows.uptoBulkAll ds ≤ 1048576 := by
    have : Rows.uptoBulkAll (ds ++ []) ≤ 1048576 := of_decide_eq_true hk
    rwa [List.append_nil] at this
  refine (contract W base args ds p hval hA hbulk).mono fun e W' ⟨he, hbel⟩ => ?_
  have hds : ds.length = fn.params.toList.length := trodAll_length _ _ _ _ hA
  have hlt : ∀ x ∈ p, x.block < W.heap.size := fun x hx => hW'.lt x (List.mem_append_left _ hx)
  have hfn' : ((Rows.OpenSpec.upto s).at F).fn = s.fn := rfl
  have hvars' : ((Rows.OpenSpec.upto s).at F).vars = s.vars := rfl
  refine ⟨_, he, ds, [], p ++ [], [], p, [], hW', ?_, ?_, ?_, hbel.frame _, fun h => by cases h⟩
  · rw [List.append_nil, hfn', hs ds hds, hb]
    simp only [Value.resultList]
    exact ⟨[], [], shut_bool hub true, rfl, rfl⟩
  · rw [List.append_nil, hfn', hs ds hds]
    exact trodAll_stay hl hbel _ _ _ _ (fun t ht => by
      have := List.all_eq_true.1 hread t ht
      simpa using this) hA hlt
  · rw [List.append_nil, hfn', hs ds hds, hvars', hv]; rfl
end
end Go.Proofs.Ytoaajdmacngnjaa
namespace Go.Proofs.Ytoaajdmacngnjaa
open Go.RowKit Go.BK
theorem Try.own : ownKnob Try.prog.godebug = none := by kernel_rfl
theorem Try.laidOut : laidOutB Try.prog = true := by kernel_rfl
end Go.Proofs.Ytoaajdmacngnjaa
namespace Go.Proofs.Ytoaajdmacngnjaa
open Go.RowKit Go.BK Go.Deep Go.ChangeShapes Go.WideShapes Go.ChangeAt
def telMu (t : Tel) : Nat := t.2.length + 1
def opMuX (o : OpW) : Nat := (o.ls.map telMu).sum + 1
structure OpW.In (o : OpW) (w : World) (S : BSet) : Prop where
  row : Sees w S (.row 2 o.v o.ls.length (o.ls.flatMap telC))
  wp : (Lit.int .i64 o.p).wf = true
  wt : ∀ t ∈ o.ls, (Lit.int .i64 t.1).wf = true
section
variable {H : Type} {enc : TypeId × Value → H} {W : World}
theorem opensU_tel : OpensU enc Try.prog W 34 telC (fun t => (Lit.int .i64 t.1).wf = true) telMu :=
  (OpensU.struct Try.underlying34 (by kernel_rfl) (FOU.cons (off' := 1) (OpensU.int Try.underlying3) (by kernel_rfl) (by kernel_rfl) (FOU.cons (off' := 2) (OpensU.str Try.underlying9) (by kernel_rfl) (by kernel_rfl) FOU.nil))).map
    (fun p => (p.1, p.2.1)) (fun _ _ => rfl) (fun _ h => h.1) (fun p _ => by unfold telMu; simp only []; omega)
theorem opensU_opw : OpensU enc Try.prog W 30 opWC (fun o => o.In W (fun _ => False)) opMuX :=
  (OpensU.struct Try.underlying30 (by kernel_rfl) (FOU.cons (off' := 1) (OpensU.bool Try.underlying4) (by kernel_rfl) (by kernel_rfl) (FOU.cons (off' := 2) (OpensU.int Try.underlying3) (by kernel_rfl) (by kernel_rfl) (FOU.cons (off' := 3) (OpensU.int Try.underlying3) (by kernel_rfl) (by kernel_rfl)
    (FOU.cons (off' := 4) (OpensU.slice (sz := 2) Try.underlying28 (by kernel_rfl) (by decide) (fun _ => rfl) opensU_tel) (by kernel_rfl) (by kernel_rfl) FOU.nil))))).map
    (fun p => OpW.mk p.1 p.2.1 p.2.2.1 p.2.2.2.1.1 p.2.2.2.1.2) (fun _ _ => rfl) (fun p h => ⟨h.2.2.2.1.1, h.2.1, h.2.2.2.1.2⟩) (fun p _ => by unfold opMuX; simp only []; omega)
end
theorem tels_small : ∀ {xs : List Tel} {B : Nat}, (xs.map telMu).sum ≤ B → xs.length ≤ B ∧ ∀ t ∈ xs, t.2.length ≤ B := by
  intro xs
  induction xs with
  | nil => intro B _; exact ⟨by simp, fun i h => by cases h⟩
  | cons x r ih =>
    intro B h
    simp only [List.map_cons, List.sum_cons] at h
    unfold telMu at h ih
    obtain ⟨h2, h3⟩ := ih (B := B - (x.2.length + 1)) (by omega)
    refine ⟨by simp only [List.length_cons]; omega, fun i hi => ?_⟩
    rcases List.mem_cons.1 hi with rfl | hi
    · omega
    · have := h3 i hi; omega
theorem ops_small : ∀ {os : List OpW} {B : Nat}, (os.map opMuX).sum ≤ B → muW os ≤ B ∧ ∀ o ∈ os, ∀ t ∈ o.ls, t.2.length ≤ B := by
  intro os
  induction os with
  | nil => intro B _; exact ⟨by simp [muW], fun i h => by cases h⟩
  | cons x r ih =>
    intro B h
    simp only [List.map_cons, List.sum_cons] at h
    obtain ⟨h2, h3⟩ := ih (B := B - opMuX x) (by omega)
    obtain ⟨h4, h5⟩ := tels_small (xs := x.ls) (B := opMuX x - 1) (by unfold opMuX; omega)
    have h6 : 1 ≤ opMuX x := by unfold opMuX; omega
    refine ⟨?_, fun i hi => ?_⟩
    · unfold muW at h2 ⊢
      rw [List.map_cons, List.sum_cons]
      unfold opMuW at h2 ⊢
      omega
    · rcases List.mem_cons.1 hi with rfl | hi
      · intro t ht; have := h5 t ht; omega
      · intro t ht; have := h3 i hi t ht; omega
theorem ops_good {os : List OpW} {w : World} {S : BSet} (h : ∀ o ∈ os, o.In w S) (hl : ∀ o ∈ os, ∀ t ∈ o.ls, t.2.length ≤ 1048576) : ∀ o ∈ os, o.Good w S := fun o ho =>
  ⟨(h o ho).row, (h o ho).wp, fun t ht => ⟨(h o ho).wt t ht, Nat.le_trans (hl o ho t ht) (by decide)⟩⟩
end Go.Proofs.Ytoaajdmacngnjaa
namespace Go.Proofs.Ytoaajdmacngnjaa
open Go.RowKit Go.BK
theorem muW_take (os : List OpW) (i : Nat) (h : i < os.length) : muW (os.take (i + 1)) = muW (os.take i) + opMuW (os.getD i default) := by
  unfold muW
  rw [List.take_add_one, List.getElem?_eq_getElem h, List.map_append, List.sum_append, List.getD_eq_getElem?_getD, List.getElem?_eq_getElem h]
  simp
theorem muW_le (os : List OpW) (i : Nat) : muW (os.take i) ≤ muW os := by
  unfold muW
  conv => rhs; rw [← List.take_append_drop i os, List.map_append, List.sum_append]
  omega
theorem opW_one {o : OpW} {w : World} {S : BSet} (h : o.Good w S) : (opWC o).all (·.oneCell') = true := by
  have h1 := h.row.row_one
  simp [opWC, h1]
  exact ⟨rfl, rfl, rfl⟩
theorem inv_nil (n : Nat) : Inv n [] := ⟨List.nodup_nil, (fun q h => by cases h), Nat.zero_le _, Nat.zero_le _⟩
theorem len_mu : ∀ os : List OpW, os.length ≤ muW os
  | [] => Nat.zero_le _
  | o :: r => by
    have h := len_mu r
    unfold muW at h ⊢
    rw [List.map_cons, List.sum_cons, List.length_cons]
    have : 1 ≤ opMuW o := by unfold opMuW; omega
    omega
end Go.Proofs.Ytoaajdmacngnjaa
namespace Go.BK
open Go.RowKit Go.MapKept
open Go.WideMaps (KeyLaw)
section
variable {P : Program} {w0 : World} {S0 : BSet} {n : Nat} {F : Fr} {A : List HP} {dd : Option Tmp} {T : TypeId} {pos : String} {af : Array Edge} {x y : Operand} {t ty : TypeId} {gd : Option (Nat × Bool)} {ops : Array Oper} {rest : List Oper} {Q : Exit → Act → World → Prop} {d : Nat} {α : Type} {kv : α → Value} {k : TypeId}
/-- What kv tells can be a key of type k, and no two tell the same. -/
structure CKey (P : Program) (k : TypeId) (kv : α → Value) : Prop where
  law : KeyLaw P k
  inj : ∀ a b, kv a = kv b → a = b
def KeyOk (P : Program) (k : TypeId) (kv : α → Value) (a : α) : Prop := ∃ l, keyOf P k (kv a) = some l
/-- The entries tell g: what isn't among them counts 0. -/
def CFit (P : Program) (k : TypeId) (kv : α → Value) (g : α → Int) (es : Array MapEntry) (cl : Nat) : Prop :=
  Stamped es cl ∧ (∀ e ∈ es.toList, ∃ a, e.key = kv a ∧ KeyOk P k kv a ∧ e.val = i64 (g a)) ∧ ∀ a, (∀ e ∈ es.toList, e.key ≠ kv a) → g a = 0
def CAt (kv : α → Value) (a : α) (st : Nat) (es : Array MapEntry) (cl : Nat) : Prop := (∃ e ∈ es.toList, e.key = kv a ∧ e.born = st) ∨ ((∀ e ∈ es.toList, e.key ≠ kv a) ∧ cl = st)
def CIn (kv : α → Value) (a : α) (st : Nat) (es : Array MapEntry) (_ : Nat) : Prop := ∃ e ∈ es.toList, e.key = kv a ∧ e.born = st
def CAny (_ : Array MapEntry) (_ : Nat) : Prop := True
/-- Block b is a map that tells g; of its entries and its clock R holds. -/
def HP.cmap (P : Program) (k : TypeId) (kv : α → Value) (b : Nat) (g : α → Int) (R : Array MapEntry → Nat → Prop) : HP where
  sat S w := (∀ x, S x ↔ x = b) ∧ ∃ es clock, w.heap[b]? = some (.map es clock) ∧ CFit P k kv g es clock ∧ R es clock
  loc := fun ⟨h1, es, cl, h2, h3⟩ hk => ⟨h1, es, cl, by rw [hk b ((h1 b).2 rfl)]; exact h2, h3⟩
  bnd := fun {_ _ x} ⟨h1, _, _, h2, _⟩ hb => by rw [(h1 x).1 hb]; exact lt_of_get h2
variable {g g' : α → Int} {R R' : Array MapEntry → Nat → Prop} {a : α} {b st : Nat} {es : Array MapEntry} {cl : Nat}
theorem CFit.keys (h : CFit P k kv g es cl) : ∀ e ∈ es.toList, ∃ l, keyOf P k e.key = some l := fun e he => by
  obtain ⟨a, h1, h2, _⟩ := h.2.1 e he
  rw [h1]; exact h2
theorem CFit.at (K : CKey P k kv) (h : CFit P k kv g es cl) {e : MapEntry} (he : e ∈ es.toList) (hk : e.key = kv a) : e.val = i64 (g a) := by
  obtain ⟨a', h1, _, h3⟩ := h.2.1 e he
  rw [h3, K.inj a a' (hk.symm.trans h1)]
theorem nodup_inj {β γ : Type} {f : β → γ} : ∀ {l : List β}, (l.map f).Nodup → ∀ {x y : β}, x ∈ l → y ∈ l → f x = f y → x = y
  | [], _, _, _, h, _, _ => by cases h
  | c :: l, hn, x, y, hx, hy, e => by
    rw [List.map_cons, List.nodup_cons] at hn
    rcases List.mem_cons.1 hx with hx | hx
    · rcases List.mem_cons.1 hy with hy | hy
      · rw [hx, hy]
      · rw [hx] at e; exact absurd (List.mem_map.2 ⟨y, hy, e.symm⟩) hn.1
    · rcases List.mem_cons.1 hy with hy | hy
      · rw [hy] at e; exact absurd (List.mem_map.2 ⟨x, hx, e⟩) hn.1
      · exact nodup_inj hn.2 hx hy e
theorem idx_born {l : List MapEntry} {e0 : MapEntry} (hn : (l.map (·.born)).Nodup) (h : e0 ∈ l) : ∃ j, l.findIdx? (fun e => (e.born : Int) == (e0.born : Int)) = some j ∧ l[j]? = some e0 := by
  cases hf : l.findIdx? (fun e => (e.born : Int) == (e0.born : Int)) with
  | none =>
    have := List.findIdx?_eq_none_iff.1 hf e0 h
    simp at this
  | some j =>
    obtain ⟨hj, h1, _⟩ := List.findIdx?_eq_some_iff_getElem.1 hf
    refine ⟨j, rfl, ?_⟩
    rw [List.getElem?_eq_getElem hj]
    congr 1
    refine nodup_inj hn (List.getElem_mem hj) h ?_
    have h2 := of_decide_eq_true h1
    omega
theorem modify_same {β : Type} (f : β → β) : ∀ (l : List β) (j : Nat), (∀ e, l[j]? = some e → f e = e) → l.modify j f = l
  | [], j, _ => by cases j <;> rfl
  | c :: l, 0, h => by simp [h c rfl]
  | c :: l, j + 1, h => by
    simp only [List.modify_succ_cons]
    rw [modify_same f l j fun e he => h e (by simpa using he)]
theorem mem_modify {β : Type} {f : β → β} {c : β} : ∀ {l : List β} {j : Nat}, c ∈ l.modify j f → (∃ e, l[j]? = some e ∧ c = f e) ∨ ∃ i, i ≠ j ∧ l[i]? = some c
  | [], j, h => by cases j <;> simp at h
  | q :: l, 0, h => by
    simp only [List.modify_zero_cons, List.mem_cons] at h
    rcases h with rfl | h
    · exact .inl ⟨q, rfl, rfl⟩
    · obtain ⟨i, hi, e⟩ := List.getElem_of_mem h
      exact .inr ⟨i + 1, by omega, by simp [List.getElem?_eq_getElem hi, e]⟩
  | q :: l, j + 1, h => by
    simp only [List.modify_succ_cons, List.mem_cons] at h
    rcases h with rfl | h
    · exact .inr ⟨0, by omega, rfl⟩
    · rcases mem_modify h with ⟨e, h1, h2⟩ | ⟨i, h1, h2⟩
      · exact .inl ⟨e, by simpa using h1, h2⟩
      · exact .inr ⟨i + 1, by omega, by simpa using h2⟩
theorem EvW.lookupC {e : TypeId} {r : List HP} (K : CKey P k kv) (hx : ev F x = some (.map (some b))) (hy : ev F y = some (kv a)) (hk : KeyOk P k kv a) (hu : P.underlying t = some (.map k e)) (hz : zvB P e = some (i64 0)) (ht : Take (.cmap P k kv b g R) A r) :
    EvW P w0 S0 n F A ⟨dd, .lookup t x y false, T, pos, af, gd⟩ (i64 (g a)) :=
  .pure fun a' w ha hst => by
    obtain ⟨S, _, es, cl, h2, h3, _⟩ := hst.take ht
    have hz' := runZv (w := w) hz
    obtain ⟨l, hl⟩ := hk
    have hck := fun em => K.law.check w em hl
    rcases K.law.find w hl es.toList h3.keys with ⟨h4, h5⟩ | ⟨j, e0, h4, h5, h6⟩
    · have h0 := h3.2.2 a h5
      simp [execOp, ha.eval hx, ha.eval hy, Instr.lookup, run_underlying hu, Result.andThen, Go.MapKept.run_getObj_map h2, hck, h4, hz', h0]
    · have hv := h3.at K (List.mem_of_getElem? h5) h6
      simp [execOp, ha.eval hx, ha.eval hy, Instr.lookup, run_underlying hu, Result.andThen, Go.MapKept.run_getObj_map h2, hck, h4, hv]
theorem WL.makeMapC (hn : Nat.blt d n = true) (kk : ∀ bl, WL P w0 S0 n ops Q rest ((d, .map (some bl)) :: F) (.cmap P k kv bl (fun _ => 0) CAny :: A)) : WL P w0 S0 n ops Q (⟨some d, .makeMap t none, T, pos, af, none⟩ :: rest) F A := by
  refine .step (fun a w ha hst K hK => ?_) rfl
  have hrun : (execOp a.eval ⟨some d, .makeMap t none, T, pos, af, none⟩).run P w = .ok (.value (.map (some w.heap.size))) (w.alloc (.map #[] 0)) := by
    simp [execOp, Instr.makeMap]
  unfold Oper.wp
  rw [hrun]
  exact hK _ _ ((kk _).go _ _ (ha.put (by simpa using hn) _) (hst.new _ fun _ h1 => ⟨fun _ => Iff.rfl, _, _, h1, ⟨stamped_empty 0, fun e he => by simp at he, fun _ _ => rfl⟩, trivial⟩))
inductive UpdCm (P : Program) (k : TypeId) (kv : α → Value) (b : Nat) (g g' : α → Int) (R R' : Array MapEntry → Nat → Prop) : List HP → List HP → Prop
  | head {r : List HP} : UpdCm P k kv b g g' R R' (.cmap P k kv b g R :: r) (.cmap P k kv b g' R' :: r)
  | tail {y : HP} {r r' : List HP} : UpdCm P k kv b g g' R R' r r' → UpdCm P k kv b g g' R R' (y :: r) (y :: r')
theorem UpdCm.take {A A' : List HP} (u : UpdCm P k kv b g g' R R' A A') : ∃ r, Take (.cmap P k kv b g R) A r ∧ Take (.cmap P k kv b g' R') A' r := by
  induction u with
  | head => exact ⟨_, .head, .head⟩
  | tail _ ih => obtain ⟨r, h1, h2⟩ := ih; exact ⟨_, .tail h1, .tail h2⟩
theorem St.updC {A A' : List HP} {w : World} {es' : Array MapEntry} {cl' : Nat} (h : St w0 S0 A w) (u : UpdCm P k kv b g g' R R' A A') (he : CFit P k kv g' es' cl') (hs' : R' es' cl') : St w0 S0 A' { w with heap := w.heap.setIfInBounds b (.map es' cl') } := by
  obtain ⟨r, t1, t2⟩ := u.take
  refine h.turn fun S hs => ?_
  obtain ⟨S1, S2, hu, hd, ⟨h1, es, cl, h2, h3⟩, h4⟩ := t1.star hs
  have hb := lt_of_get h2
  refine ⟨S, t2.unstar ⟨S1, S2, hu, hd, ⟨h1, es', cl', by simp [Array.getElem?_setIfInBounds_self_of_lt hb], he, hs'⟩, (sepL r).loc h4 fun x hx => ?_⟩, ⟨rfl, rfl, rfl, by simp, fun x _ hx => ?_⟩, fun _ h => .inl h⟩
  · have hne : b ≠ x := fun e => hd x ((h1 x).2 e.symm) hx
    simp [Array.getElem?_setIfInBounds_ne hne]
  · have hne : b ≠ x := fun e => hx ((hu x).2 (.inl ((h1 x).2 e.symm)))
    simp [Array.getElem?_setIfInBounds_ne hne]
theorem St.stamp {w : World} {r : List HP} (a : α) (ht : Take (.cmap P k kv b g R) A r) (h : St w0 S0 A w) : ∃ st, St w0 S0 (.cmap P k kv b g (CAt kv a st) :: r) w := by
  obtain ⟨S, h1, h2, h3⟩ := h
  obtain ⟨S1, S2, hu, hd, ⟨h5, es, cl, h6, h7, _⟩, h8⟩ := ht.star h1
  by_cases hm : ∃ e ∈ es.toList, e.key = kv a
  · obtain ⟨e, he, hk⟩ := hm
    exact ⟨e.born, S, ⟨S1, S2, hu, hd, ⟨h5, es, cl, h6, h7, .inl ⟨e, he, hk, rfl⟩⟩, h8⟩, h2, h3⟩
  · exact ⟨cl, S, ⟨S1, S2, hu, hd, ⟨h5, es, cl, h6, h7, .inr ⟨fun e he hk => hm ⟨e, he, hk⟩, rfl⟩⟩, h8⟩, h2, h3⟩
/-- The stamp of a key's entry, or the one that it is to have, is known ahead. -/
theorem WC.stamp {c : Code} {r : List HP} (a : α) (ht : Take (.cmap P k kv b g R) A r) (kk : ∀ st, WC P w0 S0 n c Q F (.cmap P k kv b g (CAt kv a st) :: r)) : WC P w0 S0 n c Q F A :=
  ⟨fun a' w ha hs => by obtain ⟨st, hx⟩ := hs.stamp a ht; exact (kk st).go a' w ha hx⟩
theorem EffW.mapEntryC {e : TypeId} {A' : List HP} (K : CKey P k kv) (hx : ev F x = some (.map (some b))) (hy : ev F y = some (kv a)) (hk : KeyOk P k kv a) (hu : P.underlying t = some (.map k e)) (hz : zvB P e = some (i64 0)) (ht : UpdCm P k kv b g g (CAt kv a st) (CIn kv a st) A A') :
    EffW P w0 S0 n F A A' ⟨dd, .mapEntry t x y, T, pos, af, gd⟩ (.tuple #[i64 (g a), goInt st]) := by
  refine ⟨fun Q K' a' w ha hst hK => ?_⟩
  obtain ⟨r, t1, _⟩ := ht.take
  obtain ⟨S, _, es, cl, h2, h3, h4⟩ := hst.take t1
  have hz' := runZv (w := w) hz
  have hko := hk
  obtain ⟨l, hl⟩ := hk
  obtain ⟨es', cl', hrun, hf, hc⟩ : ∃ es' cl', (Instr.mapEntry t (.map (some b)) (kv a)).run P w = .ok (.tuple #[i64 (g a), goInt st]) { w with heap := w.heap.setIfInBounds b (.map es' cl') } ∧ CFit P k kv g es' cl' ∧ CIn kv a st es' cl' := by
    rcases K.law.find w hl es.toList h3.keys with ⟨h5, h6⟩ | ⟨j, e0, h5, h6, h7⟩
    · have h0 := h3.2.2 a h6
      have hcl : cl = st := by
        rcases h4 with ⟨e, he, hk, _⟩ | ⟨_, h⟩
        · exact absurd hk (h6 e he)
        · exact h
      subst hcl
      refine ⟨es.push ⟨kv a, i64 0, cl⟩, cl + 1, ?_, ⟨Go.MapKept.stamped_push h3.1 h6, fun e he => ?_, fun a' h' => h3.2.2 a' fun e he => h' e (by rw [Array.toList_push]; exact List.mem_append_left _ he)⟩, ⟨_, by rw [Array.toList_push]; exact List.mem_append_right _ (List.mem_singleton.2 rfl), rfl, rfl⟩⟩
      · simp [Instr.mapEntry, run_underlying hu, Result.andThen, Go.MapKept.run_getObj_map h2, K.law.check w false hl, h5, hz', h0, Go.MapKept.run_setObj_map _ h2]
      · rw [Array.toList_push] at he
        rcases List.mem_append.1 he with he | he
        · exact h3.2.1 e he
        · rw [List.mem_singleton] at he; subst he
          exact ⟨a, rfl, hko, by rw [h0]⟩
    · have hj : es[j]? = some e0 := by simpa using h6
      have hm0 := List.mem_of_getElem? h6
      have hv := h3.at K hm0 h7
      have hb : e0.born = st := by
        rcases h4 with ⟨e, he, hk, hb⟩ | ⟨h, _⟩
        · rw [← hb, nodup_inj h3.1.2.2 hm0 he (h7.trans hk.symm)]
        · exact absurd h7 (h e0 hm0)
      have hsame : es.modify j (fun e => { e with key := kv a }) = es := by
        apply Array.ext'
        rw [Array.toList_modify]
        refine modify_same _ _ _ fun e he => ?_
        rw [h6] at he
        cases he
        rw [← h7]
      refine ⟨es, cl, ?_, h3, ⟨e0, hm0, h7, hb⟩⟩
      simp [Instr.mapEntry, run_underlying hu, Result.andThen, Go.MapKept.run_getObj_map h2, K.law.check w false hl, h5, hj, h7, K.law.stays w hl, hsame, hv, hb, Go.MapKept.run_setObj_map _ h2]
  have hrun' : (execOp a'.eval ⟨dd, .mapEntry t x y, T, pos, af, gd⟩).run P w = .ok (.value (.tuple #[i64 (g a), goInt st])) { w with heap := w.heap.setIfInBounds b (.map es' cl') } := by
    simp [execOp, ha.eval hx, ha.eval hy, hrun]
  unfold Oper.wp
  rw [hrun']
  exact hK _ (hst.updC ht hf hc)
/-- One more of a. -/
def cset [DecidableEq α] (g : α → Int) (a : α) (v : Int) : α → Int := fun a' => if a' = a then v else g a'
theorem EffW.entryStoreC [DecidableEq α] {A' : List HP} {z : Operand} {v : Int} (K : CKey P k kv) (hx : ev F x = some (.map (some b))) (hy : ev F y = some (goInt st)) (hv : ev F z = some (i64 v)) (ht : UpdCm P k kv b g (cset g a v) (CIn kv a st) CAny A A') :
    EffW P w0 S0 n F A A' ⟨none, .entryStore t x y z, T, pos, af, gd⟩ undef := by
  refine ⟨fun Q K' a' w ha hst hK => ?_⟩
  obtain ⟨r, t1, _⟩ := ht.take
  obtain ⟨S, _, es, cl, h2, h3, ⟨e0, he0, hk0, hb0⟩⟩ := hst.take t1
  obtain ⟨j, hj, hj2⟩ := idx_born h3.1.2.1 he0
  rw [hb0] at hj
  obtain ⟨es', cl', hrun, hf⟩ : ∃ es' cl', (Instr.entryStore t (.map (some b)) (goInt st) (i64 v)).run P w = .ok () { w with heap := w.heap.setIfInBounds b (.map es' cl') } ∧ CFit P k kv (cset g a v) es' cl' := by
    refine ⟨es.modify j fun e => { e with val := i64 v }, cl, ?_, Go.MapKept.stamped_modify h3.1 _ _ (fun _ _ => rfl) (fun _ _ _ => rfl), fun e he => ?_, fun a' h' => ?_⟩
    · have hidx : es.findIdx? (fun e => (e.born : Int) == (st : Int)) = some j := by
        rw [← hj]; cases es; simp
      simp [Instr.entryStore, Go.MapKept.run_getObj_map h2, asInt, asIntOf, goInt, hidx, Go.MapKept.run_setObj_map _ h2, Result.andThen]
    · rw [Array.toList_modify] at he
      rcases mem_modify he with ⟨e1, h5, rfl⟩ | ⟨i, hi, h5⟩
      · rw [hj2] at h5
        cases h5
        obtain ⟨a1, h6, h7, _⟩ := h3.2.1 e0 he0
        have := K.inj a a1 (hk0.symm.trans h6)
        subst this
        exact ⟨a, hk0, h7, by simp only [cset, if_pos]⟩
      · obtain ⟨a1, h6, h7, h8⟩ := h3.2.1 e (List.mem_of_getElem? h5)
        refine ⟨a1, h6, h7, ?_⟩
        have hne : ¬ a1 = a := fun e1 => by
          subst e1
          have h9 := h3.1.2.2
          obtain ⟨hi1, h10⟩ := List.getElem?_eq_some_iff.1 h5
          obtain ⟨hj1, h11⟩ := List.getElem?_eq_some_iff.1 hj2
          refine hi ((List.getElem_inj (h := h9) (h₀ := by simpa using hi1) (h₁ := by simpa using hj1)).1 ?_)
          simp only [List.getElem_map, h10, h11, h6, hk0]
        simp only [cset, if_neg hne]; exact h8
    · have hne : ¬ a' = a := fun e1 => by
        subst e1
        refine h' { e0 with val := i64 v } ?_ hk0
        rw [Array.toList_modify]
        refine List.mem_of_getElem? (i := j) ?_
        rw [List.getElem?_modify, hj2]; simp
      simp only [cset, if_neg hne]
      refine h3.2.2 a' fun e he hk => ?_
      obtain ⟨i, hi, hie⟩ := List.getElem_of_mem he
      by_cases hij : i = j
      · subst hij
        rw [List.getElem?_eq_getElem hi, hie] at hj2
        cases hj2
        exact hne (K.inj _ _ (hk.symm.trans hk0))
      · refine h' e ?_ hk
        rw [Array.toList_modify]
        refine List.mem_of_getElem? (i := i) ?_
        rw [List.getElem?_modify, List.getElem?_eq_getElem hi, hie]
        simp [Ne.symm hij]
  have hrun' : (execOp a'.eval ⟨none, .entryStore t x y z, T, pos, af, gd⟩).run P w = .ok .skip { w with heap := w.heap.setIfInBounds b (.map es' cl') } := by
    simp [execOp, ha.eval hx, ha.eval hy, ha.eval hv, hrun]
  unfold Oper.wp
  rw [hrun']
  exact hK _ (hst.updC ht hf trivial)
end
end Go.BK
namespace Go.Proofs.Ytoaajdmacngnjaa
open Go.RowKit Go.BK
/-- What a map says of modes. -/
def ModeIs (m : List (Int × Value)) (md : Int → Int) : Prop := ∀ p, (mget p m).getD (i64 0) = i64 (md p)
section
variable {P : Program} {w0 : World} {S0 : BSet} {n : Nat} {F : Fr} {A r : List HP} {ops : Array Oper} {Q : Exit → Act → World → Prop} {rest : List Oper} {rb : Nat} {md : Int → Int} {due held : List Tel}
end
def setD (md : Int → Int) (p m : Int) : Int → Int := if m < 0 ∨ 5 < m then md else fun x => if x = p then m else md x
end Go.Proofs.Ytoaajdmacngnjaa
namespace Go.BK
theorem NewW.conv {P : Program} {w0 : World} {S0 : BSet} {n : Nat} {F : Fr} {A : List HP} {out out' : Nat × Value → List HP} {o : Oper} {val : Nat × Value → Value} (h : NewW P w0 S0 n F A out' o val) (k : ∀ p w, St w0 S0 (out' p) w → St w0 S0 (out p) w) : NewW P w0 S0 n F A out o val :=
  ⟨fun Q K a w ha hs hK => h.go Q K a w ha hs fun p w' hs' => hK p w' (k p w' hs')⟩
end Go.BK
namespace Go.Proofs.Ytoaajdmacngnjaa
open Go.RowKit Go.BK
def isP (p : Int) (t : Tel) : Bool := decide (t.1 = p)
def peerO (md : Int → Int) (due held : List Tel) (p : Int) : List Tel := due.filter (isP p) ++ (if md p = 5 then [] else (held.filter (isP p)).reverse)
def dStep (md : Int → Int) (s : List Tel × List Tel × List Tel) (t : Tel) : List Tel × List Tel × List Tel :=
  if md t.1 = 0 then (s.1 ++ [t], s.2.1, s.2.2) else if md t.1 = 2 then (s.1, s.2.1 ++ [t], s.2.2) else if md t.1 = 3 then (s.1 ++ [t], s.2.1 ++ [t], s.2.2) else if md t.1 = 4 then (s.1 ++ [(t.1, spoilF t.2)], s.2.1, s.2.2) else if md t.1 = 5 then (s.1, s.2.1, s.2.2 ++ [t]) else s
def isHeld (md : Int → Int) (t : Tel) : Bool := decide (md t.1 = 5)
def dPass (md : Int → Int) (due held l : List Tel) (K : List Int) : List Tel × List Tel × List Tel := l.foldl (dStep md) (K.flatMap (peerO md due held), [], held.filter (isHeld md))
theorem tel_take (l : List Tel) (i : Nat) (h : i < l.length) : l.take (i + 1) = l.take i ++ [l.getD i default] := by
  rw [List.take_add_one, List.getD_eq_getElem?_getD, List.getElem?_eq_getElem h]; rfl
structure KeysOf (K : List Int) (l : List Tel) : Prop where
  lt : K.Pairwise (· < ·)
  mem : ∀ p, p ∈ K ↔ p ∈ l.map (·.1)
end Go.Proofs.Ytoaajdmacngnjaa
namespace Go.Proofs.Ytoaajdmacngnjaa
open Go.RowKit Go.BK
def wOf (xs : List Wr) (p : Int) : Wr := (ofF xs p).getD (ixW xs p) default
def upW (xs : List Wr) (p : Int) (q : Wr) : List Wr := (ofF xs p).set (ixW xs p) q
theorem ofF_yes {q : Wr} {r : List Wr} {p : Int} (e : p = q.p) : ixW (q :: r) p = 0 ∧ ofF (q :: r) p = q :: r := by
  have h : ixW (q :: r) p = 0 := by unfold ixW; rw [if_pos e]
  refine ⟨h, ?_⟩
  unfold ofF
  rw [h, if_pos (by simp)]
theorem ofF_no {q : Wr} {r : List Wr} {p : Int} (e : ¬ p = q.p) : ixW (q :: r) p = ixW r p + 1 ∧ ofF (q :: r) p = q :: ofF r p := by
  have h : ixW (q :: r) p = ixW r p + 1 := by
    show (if p = q.p then 0 else ixW r p + 1) = _
    rw [if_neg e]
  refine ⟨h, ?_⟩
  unfold ofF
  rw [h]
  by_cases h2 : ixW r p < r.length
  · rw [if_pos (by simp only [List.length_cons]; omega), if_pos h2]
  · rw [if_neg (by simp only [List.length_cons]; omega), if_neg h2]; rfl
theorem wOf_cons (q : Wr) (r : List Wr) (p : Int) : wOf (q :: r) p = if p = q.p then q else wOf r p := by
  unfold wOf
  by_cases e : p = q.p
  · rw [(ofF_yes e).1, (ofF_yes e).2, if_pos e]; rfl
  · rw [(ofF_no e).1, (ofF_no e).2, if_neg e, List.getD_cons_succ]
theorem upW_cons (q : Wr) (r : List Wr) (p : Int) (q' : Wr) : upW (q :: r) p q' = if p = q.p then q' :: r else q :: upW r p q' := by
  unfold upW
  by_cases e : p = q.p
  · rw [(ofF_yes e).1, (ofF_yes e).2, if_pos e]; rfl
  · rw [(ofF_no e).1, (ofF_no e).2, if_neg e, List.set_cons_succ]
theorem wOf_up (xs : List Wr) (p : Int) (q' : Wr) (h : q'.p = p) (p' : Int) : wOf (upW xs p q') p' = if p' = p then q' else wOf xs p' := by
  induction xs with
  | nil =>
    show wOf [q'] p' = _
    rw [wOf_cons, h]
  | cons q r ih =>
    rw [upW_cons]
    by_cases e : p = q.p
    · rw [if_pos e, wOf_cons, wOf_cons, h]
      by_cases e2 : p' = p
      · rw [if_pos e2, if_pos e2]
      · rw [if_neg e2, if_neg e2, if_neg (by rw [← e]; exact e2)]
    · rw [if_neg e, wOf_cons, wOf_cons, ih]
      by_cases e2 : p' = q.p
      · rw [if_pos e2, if_neg (by rw [e2]; exact fun h => e h.symm), if_pos e2]
      · rw [if_neg e2, if_neg e2]
theorem wOf_ready (xs : List Wr) (p : Int) : wOf (xs.map readyW) p = readyW (wOf xs p) := by
  induction xs with
  | nil => rfl
  | cons q r ih =>
    rw [List.map_cons, wOf_cons, wOf_cons, ih]
    show (if p = q.p then _ else _) = _
    split <;> rfl
theorem wOf_not (xs : List Wr) (p : Int) (h : p ∉ xs.map (·.p)) : wOf xs p = newW p := by
  induction xs with
  | nil => rfl
  | cons q r ih =>
    rw [List.map_cons, List.mem_cons, not_or] at h
    rw [wOf_cons, if_neg h.1, ih h.2]
theorem wOf_get (xs : List Wr) (p : Int) (h : p ∈ xs.map (·.p)) : getW xs p = wOf xs p := by
  obtain ⟨h1, _⟩ := ixW_mem xs p h
  unfold getW wOf ofF
  rw [if_pos h1]
theorem telsOf_two (p : Int) (a b : List Txt) : telsOf p (a ++ b) = telsOf p a ++ telsOf p b := List.map_append ..
/-- A peer's wire, and what the document has of it. -/
def RelW (q : Wr) (m p : Int) (due held : List Tel) : Prop := q.mode = m ∧ telsOf p q.due = due.filter (isP p) ∧ telsOf p q.held = held.filter (isP p)
def Rel (xs : List Wr) (md : Int → Int) (due held : List Tel) : Prop := ∀ p, RelW (wOf xs p) (md p) p due held
theorem rel_nil : Rel [] (fun _ => 0) [] [] := fun _ => ⟨rfl, rfl, rfl⟩
theorem rel_set {xs : List Wr} {md : Int → Int} {due held : List Tel} (h : Rel xs md due held) (p m : Int) : Rel (setF xs p m) (setD md p m) due held := by
  unfold setF setD
  by_cases hb : m < 0 ∨ 5 < m
  · rw [if_pos hb, if_pos hb]; exact h
  · rw [if_neg hb, if_neg hb]
    intro p'
    show RelW (wOf (upW xs p ⟨(wOf xs p).p, m, (wOf xs p).due, (wOf xs p).held⟩) p') (if p' = p then m else md p') p' due held
    rw [wOf_up xs p ⟨(wOf xs p).p, m, (wOf xs p).due, (wOf xs p).held⟩ (ofF_p xs p) p']
    by_cases e : p' = p
    · rw [if_pos e, if_pos e, e]
      exact ⟨rfl, (h p).2.1, (h p).2.2⟩
    · rw [if_neg e, if_neg e]; exact h p'
theorem filter_held (md : Int → Int) (held : List Tel) (p : Int) : (held.filter (isHeld md)).filter (isP p) = if md p = 5 then held.filter (isP p) else [] := by
  induction held with
  | nil => simp
  | cons t l ih =>
    by_cases h1 : isHeld md t = true
    · rw [List.filter_cons_of_pos h1]
      by_cases h2 : isP p t = true
      · rw [List.filter_cons_of_pos h2, List.filter_cons_of_pos h2, ih]
        have e1 : md t.1 = 5 := of_decide_eq_true h1
        have e2 : t.1 = p := of_decide_eq_true h2
        rw [e2] at e1
        rw [if_pos e1, if_pos e1]
      · rw [List.filter_cons_of_neg h2, List.filter_cons_of_neg h2, ih]
    · rw [List.filter_cons_of_neg h1, ih]
      by_cases h2 : isP p t = true
      · have e1 : ¬ md t.1 = 5 := fun h => h1 (decide_eq_true h)
        have e2 : t.1 = p := of_decide_eq_true h2
        rw [e2] at e1
        rw [if_neg e1, if_neg e1]
      · rw [List.filter_cons_of_neg h2]
theorem rel_ready {xs : List Wr} {md : Int → Int} {due held : List Tel} (h : Rel xs md due held) : Rel (xs.map readyW) md [] (held.filter (isHeld md)) := by
  intro p
  rw [wOf_ready]
  obtain ⟨h1, h2, h3⟩ := h p
  refine ⟨h1, rfl, ?_⟩
  rw [filter_held]
  show telsOf p (if (wOf xs p).mode = 5 then (wOf xs p).held else []) = _
  rw [h1]
  split
  · exact h3
  · rfl
theorem out_ready {xs : List Wr} {md : Int → Int} {due held : List Tel} (h : Rel xs md due held) (p : Int) : telsOf p (readyO (wOf xs p)) = peerO md due held p := by
  obtain ⟨h1, h2, h3⟩ := h p
  unfold readyO peerO
  rw [h1, ← h2, ← h3]
  split
  · rw [List.append_nil]
  · rw [telsOf_two]
    congr 1
    exact List.map_reverse ..
theorem filter_mem {l : List Tel} {t : Tel} (h : t ∈ l) : l.filter (isP t.1) ≠ [] := fun e => by
  have : t ∈ l.filter (isP t.1) := List.mem_filter.2 ⟨h, decide_eq_true rfl⟩
  rw [e] at this; cases this
theorem rel_mem {xs : List Wr} {md : Int → Int} {due held : List Tel} (h : Rel xs md due held) {t : Tel} (ht : t ∈ due ++ held) : t.1 ∈ xs.map (·.p) := by
  by_cases hm : t.1 ∈ xs.map (·.p)
  · exact hm
  · exfalso
    obtain ⟨_, h2, h3⟩ := h t.1
    rw [wOf_not xs _ hm] at h2 h3
    rcases List.mem_append.1 ht with h4 | h4
    · exact filter_mem h4 h2.symm
    · exact filter_mem h4 h3.symm
/-- The peers of which something is under way, from the least. -/
def keysD (xs : List Wr) (due held : List Tel) : List Int := (sortI (xs.map (·.p))).filter fun p => decide (p ∈ (due ++ held).map (·.1))
theorem sort_lt {l : List Int} (h : l.Nodup) : (sortI l).Pairwise (· < ·) := by
  have h1 := sortI_le l
  have h2 : (sortI l).Nodup := (sortI_perm l).nodup_iff.2 h
  exact (h1.and h2).imp fun ⟨a, b⟩ => by omega
theorem keysD_of {xs : List Wr} {md : Int → Int} {due held : List Tel} (h : Rel xs md due held) (hd : (xs.map (·.p)).Nodup) : KeysOf (keysD xs due held) (due ++ held) := by
  refine ⟨(sort_lt hd).filter _, fun p => ?_⟩
  unfold keysD
  rw [List.mem_filter, (sortI_perm _).mem_iff]
  refine ⟨fun h1 => of_decide_eq_true h1.2, fun h1 => ⟨?_, decide_eq_true h1⟩⟩
  obtain ⟨t, ht, rfl⟩ := List.mem_map.1 h1
  exact rel_mem h ht
theorem flat_filter {α β : Type} (l : List α) (q : α → Bool) (f : α → List β) (h : ∀ x ∈ l, q x = false → f x = []) : (l.filter q).flatMap f = l.flatMap f := by
  induction l with
  | nil => rfl
  | cons x l ih =>
    have ih := ih fun y hy => h y (by simp [hy])
    cases e : q x with
    | true => rw [List.filter_cons_of_pos e, List.flatMap_cons, List.flatMap_cons, ih]
    | false => rw [List.filter_cons_of_neg (by rw [e]; decide), List.flatMap_cons, ih, h x (by simp) e]; rfl
theorem peer_nil (md : Int → Int) (due held : List Tel) (p : Int) (h : p ∉ (due ++ held).map (·.1)) : peerO md due held p = [] := by
  have h1 : ∀ l : List Tel, (∀ t ∈ l, t ∈ due ++ held) → l.filter (isP p) = [] := fun l hl => by
    rw [List.filter_eq_nil_iff]
    intro t ht he
    exact h (List.mem_map.2 ⟨t, hl t ht, of_decide_eq_true he⟩)
  unfold peerO
  rw [h1 due (fun t ht => List.mem_append_left _ ht), h1 held (fun t ht => List.mem_append_right _ ht)]
  split <;> rfl
theorem outR_rel {xs : List Wr} {md : Int → Int} {due held : List Tel} (h : Rel xs md due held) : outR xs (sortI (xs.map (·.p))) = (keysD xs due held).flatMap (peerO md due held) := by
  unfold keysD
  rw [flat_filter _ _ _ (fun p _ hq => peer_nil md due held p (of_decide_eq_false hq))]
  have hK : ∀ p ∈ sortI (xs.map (·.p)), p ∈ xs.map (·.p) := fun p hp => (sortI_perm _).mem_iff.1 hp
  generalize sortI (xs.map (·.p)) = K at hK
  unfold outR
  induction K with
  | nil => rfl
  | cons p r ih =>
    rw [List.flatMap_cons, List.flatMap_cons, ih fun p' hp' => hK p' (by simp [hp']), wOf_get xs p (hK p (by simp)), out_ready h p]
theorem filter_snoc (l : List Tel) (t : Tel) (p : Int) : (l ++ [t]).filter (isP p) = if p = t.1 then l.filter (isP p) ++ [t] else l.filter (isP p) := by
  rw [List.filter_append]
  by_cases e : p = t.1
  · rw [if_pos e, List.filter_cons_of_pos (show isP p t = true from decide_eq_true e.symm)]; rfl
  · rw [if_neg e, List.filter_cons_of_neg (show ¬ isP p t = true from fun h => e (of_decide_eq_true h).symm), List.filter_nil, List.append_nil]
theorem telsOf_snoc (t : Tel) (d : List Txt) : telsOf t.1 (d ++ [t.2]) = telsOf t.1 d ++ [t] := telsOf_two ..
theorem rel_step {xs : List Wr} {md : Int → Int} {out due held : List Tel} (h : Rel xs md due held) (t : Tel) : Rel (stepF (xs, out) t).1 md (dStep md (out, due, held) t).2.1 (dStep md (out, due, held) t).2.2 ∧ (stepF (xs, out) t).2 = (dStep md (out, due, held) t).1 := by
  obtain ⟨h1, h2, h3⟩ := h t.1
  have e1 : (stepF (xs, out) t).1 = upW xs t.1 (inW (wOf xs t.1) t.2) := rfl
  have e2 : (stepF (xs, out) t).2 = out ++ telsOf t.1 (inO (wOf xs t.1) t.2) := rfl
  have hp : (inW (wOf xs t.1) t.2).p = t.1 := by rw [inW_p]; exact ofF_p xs t.1
  rw [e1, e2]
  have key : ∀ (due' held' : List Tel), RelW (inW (wOf xs t.1) t.2) (md t.1) t.1 due' held' → (∀ p, p ≠ t.1 → due'.filter (isP p) = due.filter (isP p) ∧ held'.filter (isP p) = held.filter (isP p)) → Rel (upW xs t.1 (inW (wOf xs t.1) t.2)) md due' held' := by
    intro due' held' hA hB p
    rw [wOf_up xs t.1 _ hp p]
    by_cases e : p = t.1
    · rw [if_pos e, e]; exact hA
    · rw [if_neg e]
      obtain ⟨h4, h5, h6⟩ := h p
      obtain ⟨h7, h8⟩ := hB p e
      exact ⟨h4, by rw [h7]; exact h5, by rw [h8]; exact h6⟩
  unfold dStep
  by_cases c0 : md t.1 = 0
  · rw [if_pos c0]
    refine ⟨key _ _ ?_ fun p _ => ⟨rfl, rfl⟩, ?_⟩
    · unfold inW
      rw [h1, c0, if_neg (by decide), if_neg (by decide)]
      exact ⟨by rw [h1]; exact c0, h2, h3⟩
    · unfold inO
      rw [h1, c0, if_pos (by decide)]; rfl
  rw [if_neg c0]
  by_cases c2 : md t.1 = 2
  · rw [if_pos c2]
    refine ⟨key _ _ ?_ fun p hp => ⟨(by rw [filter_snoc, if_neg hp]), rfl⟩, ?_⟩
    · unfold inW
      rw [h1, c2, if_pos (by decide)]
      refine ⟨rfl, ?_, h3⟩
      rw [filter_snoc, if_pos rfl, ← h2]; exact telsOf_snoc t _
    · unfold inO
      rw [h1, c2, if_neg (by decide), if_neg (by decide)]; exact List.append_nil _
  rw [if_neg c2]
  by_cases c3 : md t.1 = 3
  · rw [if_pos c3]
    refine ⟨key _ _ ?_ fun p hp => ⟨(by rw [filter_snoc, if_neg hp]), rfl⟩, ?_⟩
    · unfold inW
      rw [h1, c3, if_pos (by decide)]
      refine ⟨rfl, ?_, h3⟩
      rw [filter_snoc, if_pos rfl, ← h2]; exact telsOf_snoc t _
    · unfold inO
      rw [h1, c3, if_pos (by decide)]; rfl
  rw [if_neg c3]
  by_cases c4 : md t.1 = 4
  · rw [if_pos c4]
    refine ⟨key _ _ ?_ fun p _ => ⟨rfl, rfl⟩, ?_⟩
    · unfold inW
      rw [h1, c4, if_neg (by decide), if_neg (by decide)]
      exact ⟨by rw [h1]; exact c4, h2, h3⟩
    · unfold inO
      rw [h1, c4, if_neg (by decide), if_pos (by decide)]; rfl
  rw [if_neg c4]
  by_cases c5 : md t.1 = 5
  · rw [if_pos c5]
    refine ⟨key _ _ ?_ fun p hp => ⟨rfl, (by rw [filter_snoc, if_neg hp])⟩, ?_⟩
    · unfold inW
      rw [h1, c5, if_neg (by decide), if_pos (by decide)]
      refine ⟨rfl, h2, ?_⟩
      rw [filter_snoc, if_pos rfl, ← h3]; exact telsOf_snoc t _
    · unfold inO
      rw [h1, c5, if_neg (by decide), if_neg (by decide)]; exact List.append_nil _
  rw [if_neg c5]
  refine ⟨key _ _ ?_ fun p _ => ⟨rfl, rfl⟩, ?_⟩
  · unfold inW
    rw [h1, if_neg (by omega), if_neg (by omega)]
    exact ⟨h1, h2, h3⟩
  · unfold inO
    rw [h1, if_neg (by omega), if_neg (by omega)]; exact List.append_nil _
theorem rel_pass {xs : List Wr} {md : Int → Int} {due held : List Tel} (h : Rel xs md due held) (l : List Tel) : Rel (passF xs l).1 md (dPass md due held l (keysD xs due held)).2.1 (dPass md due held l (keysD xs due held)).2.2 ∧ (passF xs l).2 = (dPass md due held l (keysD xs due held)).1 := by
  unfold passF dPass
  rw [outR_rel h]
  have key : ∀ (l : List Tel) (xs : List Wr) (out due held : List Tel), Rel xs md due held → Rel (l.foldl stepF (xs, out)).1 md (l.foldl (dStep md) (out, due, held)).2.1 (l.foldl (dStep md) (out, due, held)).2.2 ∧ (l.foldl stepF (xs, out)).2 = (l.foldl (dStep md) (out, due, held)).1 := by
    intro l
    induction l with
    | nil => intro xs out due held h; exact ⟨h, rfl⟩
    | cons t l ih =>
      intro xs out due held h
      obtain ⟨h1, h2⟩ := rel_step (out := out) h t
      rw [List.foldl_cons, List.foldl_cons]
      have e1 : stepF (xs, out) t = ((stepF (xs, out) t).1, (dStep md (out, due, held) t).1) := Prod.ext rfl h2
      rw [e1]
      exact ih _ _ _ _ h1
  exact key l _ _ _ _ (rel_ready h)
theorem sum_one (K : List Int) (a : Int) (hd : K.Nodup) : (K.map fun p => if a = p then 1 else 0).sum = if a ∈ K then 1 else 0 := by
  induction K with
  | nil => rfl
  | cons p r ih =>
    rw [List.map_cons, List.sum_cons, ih (List.nodup_cons.1 hd).2]
    by_cases e : a = p
    · rw [if_pos e, if_neg (by rw [e]; exact (List.nodup_cons.1 hd).1), if_pos (by rw [e]; simp)]
    · rw [if_neg e, Nat.zero_add]
      by_cases h : a ∈ r
      · rw [if_pos h, if_pos (by simp [h])]
      · rw [if_neg h, if_neg (by simp [e, h])]
theorem sum_add (K : List Int) (f g : Int → Nat) : (K.map fun p => f p + g p).sum = (K.map f).sum + (K.map g).sum := by
  induction K with
  | nil => rfl
  | cons p r ih => simp only [List.map_cons, List.sum_cons, ih]; omega
theorem sum_filter (K : List Int) (hd : K.Nodup) (l : List Tel) (h : ∀ t ∈ l, t.1 ∈ K) : (K.map fun p => (l.filter (isP p)).length).sum = l.length := by
  induction l with
  | nil =>
    clear h hd
    induction K with
    | nil => rfl
    | cons p r ih => rw [List.map_cons, List.sum_cons, ih]; rfl
  | cons t l ih =>
    have e : (fun p => ((t :: l).filter (isP p)).length) = fun p => (if t.1 = p then 1 else 0) + (l.filter (isP p)).length := by
      funext p
      by_cases h1 : t.1 = p
      · rw [List.filter_cons_of_pos (show isP p t = true from decide_eq_true h1), if_pos h1, List.length_cons, Nat.add_comm]
      · rw [List.filter_cons_of_neg (show ¬ isP p t = true from fun h => h1 (of_decide_eq_true h)), if_neg h1, Nat.zero_add]
    rw [e, sum_add, ih fun t' ht' => h t' (by simp [ht']), sum_one K t.1 hd, if_pos (h t (by simp)), List.length_cons, Nat.add_comm]
theorem rel_under {xs : List Wr} {md : Int → Int} {due held : List Tel} (h : Rel xs md due held) (hd : (xs.map (·.p)).Nodup) : underF xs = due.length + held.length := by
  rw [← keys_sum xs hd (List.Perm.refl _), ← sum_filter _ hd due (fun t ht => rel_mem h (List.mem_append_left _ ht)), ← sum_filter _ hd held (fun t ht => rel_mem h (List.mem_append_right _ ht)), ← sum_add]
  congr 1
  refine List.map_congr_left fun p hp => ?_
  obtain ⟨_, h2, h3⟩ := h p
  rw [wOf_get xs p hp]
  show (wOf xs p).due.length + (wOf xs p).held.length = _
  rw [← h2, ← h3]
  unfold telsOf
  rw [List.length_map, List.length_map]
end Go.Proofs.Ytoaajdmacngnjaa
namespace Go.Proofs.Ytoaajdmacngnjaa
open Go.RowKit Go.BK
def telV (t : Tel) : Value := .agg (telC t).toArray
theorem str_inj (a b : Txt) (h : str a = str b) : a = b := by
  have h1 : a.toArray = b.toArray := by
    unfold str at h
    injection h with h
    injection h
  simpa using h1
theorem telV_inj (a b : Tel) (h : telV a = telV b) : a = b := by
  have h1 : telC a = telC b := by
    unfold telV at h
    injection h with h
    simpa using h
  unfold telC at h1
  injection h1 with h2 h3
  injection h3 with h4 _
  injection h2 with _ h5
  exact Prod.ext h5 (str_inj _ _ h4)
theorem tel_wide : (match Try.prog.underlying 34 with | some (.array _ _) | some (.struct _) => true | _ => false) = true := by rw [Try.underlying34]
theorem tel_law : CKey Try.prog 34 telV := ⟨deep_law_laid (by kernel_rfl) (m := 2) (by omega) (of_decide_eq_true (by kernel_rfl)) (by kernel_rfl) tel_wide, telV_inj⟩
theorem tel_size : Try.prog.types.size + 1 = (Try.prog.types.size - 1) + 2 := of_decide_eq_true (by kernel_rfl)
theorem tel_kt : Try.prog.keyType 34 = true := by kernel_rfl
theorem tel_c34 : Try.prog.cellsOf 34 = 2 := by kernel_rfl
theorem tel_c3 : Try.prog.cellsOf 3 = 1 := by kernel_rfl
theorem tel_c5 : Try.prog.cellsOf 9 = 1 := by kernel_rfl
theorem tel_key {t : Tel} (h1 : (Lit.int .i64 t.1).wf = true) (h2 : t.2.length ≤ maxLen) : KeyOk Try.prog 34 telV t := by
  have hL : ∃ ls, Try.prog.keyLits (Try.prog.types.size + 1) 34 [i64 t.1, str t.2] = some ls := by
    rw [tel_size]
    generalize Try.prog.types.size - 1 = m
    have e3 : ∀ n, Try.prog.keyLits (n + 1) 3 [i64 t.1] = some [.int .i64 t.1] := fun n => by
      simp [Program.keyLits, Try.underlying3, i64, h1]
    have e5 : ∀ n, Try.prog.keyLits (n + 1) 9 [str t.2] = some [.string t.2] := fun n => by
      have : (⟨t.2.toArray⟩ : ByteArray).size ≤ maxLen := by show t.2.toArray.size ≤ maxLen; simpa using h2
      simp [Program.keyLits, Try.underlying9, str, this]
    refine ⟨[.int .i64 t.1, .string t.2], ?_⟩
    have e3' := e3 m
    have e5' := e5 m
    unfold Program.keyLits
    simp [Try.underlying34, tel_c34, tel_c3, tel_c5, e3', e5']
  obtain ⟨ls, hL⟩ := hL
  refine ⟨.string (keyBytes ls), ?_⟩
  have hf : (telV t).formed Try.prog 34 = true := by simp [telV, telC, Value.formed, Try.underlying34, tel_c34]
  unfold keyOf
  rw [Try.underlying34]
  simp only [tel_kt, hf, Bool.and_true, if_pos]
  rw [show (telV t).cells.toList = [i64 t.1, str t.2] from rfl, hL]
  rfl
end Go.Proofs.Ytoaajdmacngnjaa
namespace Go.Proofs.Ytoaajdmacngnjaa
open Go.RowKit Go.BK
/-- A list weighed. -/
def sumW (w : Tel → Nat) (l : List Tel) : Nat := (l.map w).sum
theorem sumW_append (w : Tel → Nat) (a b : List Tel) : sumW w (a ++ b) = sumW w a + sumW w b := by
  unfold sumW; rw [List.map_append, List.sum_append]
theorem sumW_cons (w : Tel → Nat) (t : Tel) (l : List Tel) : sumW w (t :: l) = w t + sumW w l := by
  unfold sumW; rw [List.map_cons, List.sum_cons]
theorem sumW_rev (w : Tel → Nat) (l : List Tel) : sumW w l.reverse = sumW w l := by
  induction l with
  | nil => rfl
  | cons t l ih => rw [List.reverse_cons, sumW_append, ih, sumW_cons, sumW_cons]; show _ + (w t + 0) = _; omega
theorem sumW_flat (w : Tel → Nat) (K : List Int) (f : Int → List Tel) : sumW w (K.flatMap f) = (K.map fun p => sumW w (f p)).sum := by
  induction K with
  | nil => rfl
  | cons p r ih => rw [List.flatMap_cons, sumW_append, ih, List.map_cons, List.sum_cons]
theorem sum_w (K : List Int) (a : Int) (n : Nat) (hd : K.Nodup) : (K.map fun p => if a = p then n else 0).sum = if a ∈ K then n else 0 := by
  induction K with
  | nil => rfl
  | cons p r ih =>
    rw [List.map_cons, List.sum_cons, ih (List.nodup_cons.1 hd).2]
    by_cases e : a = p
    · rw [if_pos e, if_neg (by rw [e]; exact (List.nodup_cons.1 hd).1), if_pos (by rw [e]; simp), Nat.add_zero]
    · rw [if_neg e, Nat.zero_add]
      by_cases h : a ∈ r
      · rw [if_pos h, if_pos (by simp [h])]
      · rw [if_neg h, if_neg (by simp [e, h])]
theorem sumW_peers (w : Tel → Nat) (K : List Int) (hd : K.Nodup) (l : List Tel) (h : ∀ t ∈ l, t.1 ∈ K) : (K.map fun p => sumW w (l.filter (isP p))).sum = sumW w l := by
  induction l with
  | nil =>
    clear h hd
    induction K with
    | nil => rfl
    | cons p r ih => rw [List.map_cons, List.sum_cons, ih]; rfl
  | cons t l ih =>
    have e : (fun p => sumW w ((t :: l).filter (isP p))) = fun p => (if t.1 = p then w t else 0) + sumW w (l.filter (isP p)) := by
      funext p
      by_cases h1 : t.1 = p
      · rw [List.filter_cons_of_pos (show isP p t = true from decide_eq_true h1), if_pos h1, sumW_cons]
      · rw [List.filter_cons_of_neg (show ¬ isP p t = true from fun h => h1 (of_decide_eq_true h)), if_neg h1, Nat.zero_add]
    rw [e, sum_add, ih fun t' ht' => h t' (by simp [ht']), sum_w K t.1 _ hd, if_pos (h t (by simp)), sumW_cons]
theorem sumW_split (w : Tel → Nat) (q : Tel → Bool) (l : List Tel) : sumW w (l.filter q) + sumW w (l.filter fun t => !q t) = sumW w l := by
  induction l with
  | nil => rfl
  | cons t l ih =>
    cases h : q t with
    | true => rw [List.filter_cons_of_pos h, List.filter_cons_of_neg (by rw [h]; decide), sumW_cons, sumW_cons]; omega
    | false => rw [List.filter_cons_of_neg (by rw [h]; decide), List.filter_cons_of_pos (by rw [h]; rfl), sumW_cons, sumW_cons]; omega
theorem peer_part (w : Tel → Nat) (md : Int → Int) (due held : List Tel) (p : Int) : sumW w (peerO md due held p) = sumW w (due.filter (isP p)) + sumW w ((held.filter fun t => !isHeld md t).filter (isP p)) := by
  unfold peerO
  rw [sumW_append]
  congr 1
  by_cases h : md p = 5
  · rw [if_pos h]
    have : (held.filter fun t => !isHeld md t).filter (isP p) = [] := by
      rw [List.filter_eq_nil_iff]
      intro t ht hp
      have h1 := (List.mem_filter.1 ht).2
      have h2 : t.1 = p := of_decide_eq_true hp
      unfold isHeld at h1
      rw [h2, h] at h1
      simp at h1
    rw [this]
  · rw [if_neg h, sumW_rev]
    congr 1
    rw [List.filter_filter]
    refine List.filter_congr fun t _ => ?_
    by_cases h2 : isP p t = true
    · have h3 : t.1 = p := of_decide_eq_true h2
      unfold isHeld
      rw [h2, h3, decide_eq_false h]; rfl
    · have h4 : isP p t = false := by simpa using h2
      rw [h4]; rfl
theorem base_w (w : Tel → Nat) (md : Int → Int) (due held : List Tel) (K : List Int) (hK : KeysOf K (due ++ held)) : sumW w (K.flatMap (peerO md due held)) + sumW w (held.filter (isHeld md)) = sumW w due + sumW w held := by
  have hd : K.Nodup := hK.1.imp fun h => by omega
  have hm : ∀ t ∈ due ++ held, t.1 ∈ K := fun t ht => (hK.2 t.1).2 (List.mem_map.2 ⟨t, ht, rfl⟩)
  rw [sumW_flat, show (fun p => sumW w (peerO md due held p)) = fun p => sumW w (due.filter (isP p)) + sumW w ((held.filter fun t => !isHeld md t).filter (isP p)) from funext fun p => peer_part w md due held p,
    sum_add, sumW_peers w K hd due (fun t ht => hm t (List.mem_append_left _ ht)), sumW_peers w K hd _ (fun t ht => hm t (List.mem_append_right _ (List.mem_filter.1 ht).1))]
  have := sumW_split w (isHeld md) held
  omega
def ModeOk (md : Int → Int) : Prop := ∀ p, 0 ≤ md p ∧ md p ≤ 5 ∧ md p ≠ 4
/-- How often a telegram comes out. -/
def cw (md : Int → Int) (t : Tel) : Nat := if md t.1 = 1 then 0 else if md t.1 = 3 then 2 else 1
def sumW3 (w : Tel → Nat) (s : List Tel × List Tel × List Tel) : Nat := sumW w s.1 + sumW w s.2.1 + sumW w s.2.2
theorem step_w (w : Tel → Nat) (md : Int → Int) (hm : ModeOk md) (s : List Tel × List Tel × List Tel) (t : Tel) : sumW3 w (dStep md s t) = sumW3 w s + cw md t * w t := by
  obtain ⟨h1, h2, h3⟩ := hm t.1
  have e1 : ∀ l, sumW w (l ++ [t]) = sumW w l + w t := fun l => by rw [sumW_append, sumW_cons]; show _ + (w t + 0) = _; omega
  unfold dStep cw sumW3
  by_cases c0 : md t.1 = 0
  · rw [if_pos c0, if_neg (by omega), if_neg (by omega)]; simp only [e1]; omega
  rw [if_neg c0]
  by_cases c2 : md t.1 = 2
  · rw [if_pos c2, if_neg (by omega), if_neg (by omega)]; simp only [e1]; omega
  rw [if_neg c2]
  by_cases c3 : md t.1 = 3
  · rw [if_pos c3, if_neg (by omega), if_pos c3]; simp only [e1]; omega
  rw [if_neg c3, if_neg h3]
  by_cases c5 : md t.1 = 5
  · rw [if_pos c5, if_neg (by omega), if_neg (by omega)]; simp only [e1]; omega
  rw [if_neg c5, if_pos (by omega)]; omega
theorem pass_w (w : Tel → Nat) (md : Int → Int) (hm : ModeOk md) (due held l : List Tel) (K : List Int) (hK : KeysOf K (due ++ held)) : sumW3 w (dPass md due held l K) = sumW w due + sumW w held + sumW (fun t => cw md t * w t) l := by
  have key : ∀ (l : List Tel) (s : List Tel × List Tel × List Tel), sumW3 w (l.foldl (dStep md) s) = sumW3 w s + sumW (fun t => cw md t * w t) l := by
    intro l
    induction l with
    | nil => intro s; rfl
    | cons t l ih => intro s; rw [List.foldl_cons, ih, step_w w md hm, sumW_cons]; omega
  unfold dPass
  rw [key, ← base_w w md due held K hK]
  unfold sumW3
  show sumW w (K.flatMap (peerO md due held)) + 0 + sumW w (held.filter (isHeld md)) + _ = _
  omega
def one1 (_ : Tel) : Nat := 1
theorem sumW_one (l : List Tel) : sumW one1 l = l.length := by
  induction l with
  | nil => rfl
  | cons t l ih => rw [sumW_cons, ih, List.length_cons]; show 1 + _ = _; omega
def isT (t x : Tel) : Nat := if x = t then 1 else 0
def cnt (t : Tel) (l : List Tel) : Nat := sumW (isT t) l
theorem cnt_mem {t : Tel} : ∀ {l : List Tel}, 0 < cnt t l → t ∈ l
  | [], h => absurd h (Nat.lt_irrefl 0)
  | x :: l, h => by
    unfold cnt at h
    rw [sumW_cons] at h
    by_cases e : x = t
    · rw [e]; simp
    · have : isT t x = 0 := if_neg e
      rw [this, Nat.zero_add] at h
      exact List.mem_cons_of_mem _ (cnt_mem h)
theorem mem_cnt {t : Tel} : ∀ {l : List Tel}, t ∈ l → 0 < cnt t l
  | x :: l, h => by
    unfold cnt
    rw [sumW_cons]
    by_cases e : x = t
    · have : isT t x = 1 := if_pos e
      omega
    · have := mem_cnt ((List.mem_cons.1 h).resolve_left fun q => e q.symm)
      unfold cnt at this
      omega
theorem sumW_snoc (w : Tel → Nat) (l : List Tel) (i : Nat) (h : i < l.length) : sumW w (l.take (i + 1)) = sumW w (l.take i) + w (l.getD i default) := by
  rw [tel_take l i h, sumW_append, sumW_cons]; rfl
theorem sumW_take (w : Tel → Nat) (l : List Tel) (i : Nat) : sumW w (l.take i) ≤ sumW w l := by
  have := sumW_append w (l.take i) (l.drop i)
  rw [List.take_append_drop] at this
  omega
theorem sumW_le (w w' : Tel → Nat) (h : ∀ t, w t ≤ w' t) (l : List Tel) : sumW w l ≤ sumW w' l := by
  induction l with
  | nil => exact Nat.le_refl _
  | cons t l ih => rw [sumW_cons, sumW_cons]; have := h t; omega
theorem cw_le (md : Int → Int) (t : Tel) : cw md t ≤ 2 := by
  unfold cw; split
  · omega
  · split <;> omega
theorem sumW_mul (w : Tel → Nat) (l : List Tel) : sumW (fun t => 2 * w t) l = 2 * sumW w l := by
  induction l with
  | nil => rfl
  | cons t l ih => rw [sumW_cons, sumW_cons, ih]; omega
def isM (md : Int → Int) (m : Int) (t : Tel) : Nat := if md t.1 = m then 1 else 0
theorem cw_sum (md : Int → Int) (l : List Tel) : sumW (fun t => cw md t * one1 t) l + sumW (isM md 1) l = l.length + sumW (isM md 3) l := by
  induction l with
  | nil => rfl
  | cons t l ih =>
    simp only [sumW_cons, List.length_cons]
    have : cw md t * one1 t + isM md 1 t = 1 + isM md 3 t := by
      unfold cw one1 isM
      by_cases c1 : md t.1 = 1
      · rw [if_pos c1, if_pos c1, if_neg (by omega)]
      · rw [if_neg c1, if_neg c1]
        by_cases c3 : md t.1 = 3
        · rw [if_pos c3, if_pos c3]
        · rw [if_neg c3, if_neg c3]
    omega
/-- g, with what l has added. -/
def addC (g : Tel → Int) (l : List Tel) : Tel → Int := fun t => g t + (cnt t l : Int)
theorem addC_nil (g : Tel → Int) : addC g [] = g := funext fun t => by show g t + ((0 : Nat) : Int) = g t; omega
theorem addC_next (g : Tel → Int) (l : List Tel) (i : Nat) (h : i < l.length) : cset (addC g (l.take i)) (l.getD i default) (addC g (l.take i) (l.getD i default) + 1) = addC g (l.take (i + 1)) := by
  funext t
  have e := sumW_snoc (isT t) l i h
  unfold cset
  by_cases c : t = l.getD i default
  · rw [if_pos c]
    have h1 : isT t (l.getD i default) = 1 := if_pos c.symm
    rw [← c]
    unfold addC cnt
    rw [e, h1]; omega
  · rw [if_neg c]
    have h1 : isT t (l.getD i default) = 0 := if_neg fun q => c q.symm
    unfold addC cnt
    rw [e, h1]; omega
theorem addC_full (g : Tel → Int) (l : List Tel) (i : Nat) (h : l.length ≤ i) : addC g (l.take i) = addC g l := by rw [List.take_of_length_le h]
/-- What is kept between the steps: nothing comes out more than twice, and all is told. -/
structure Kept (n : Nat) (md : Int → Int) (due held : List Tel) (g c : Tel → Int) (inN out lost twice : Int) : Prop where
  mode : ModeOk md
  sums : out + due.length + held.length = inN - lost + twice
  ins : 0 ≤ inN ∧ inN ≤ n
  outs : 0 ≤ out
  losts : 0 ≤ lost ∧ lost ≤ inN
  twices : 0 ≤ twice ∧ twice ≤ inN
  told : ∀ t, 0 ≤ c t ∧ c t + cnt t due + cnt t held ≤ 2 * g t
  gs : ∀ t, 0 ≤ g t ∧ g t ≤ inN
  keys : ∀ t ∈ due ++ held, KeyOk Try.prog 34 telV t
theorem kept_nil (n : Nat) : Kept n (fun _ => 0) [] [] (fun _ => 0) (fun _ => 0) 0 0 0 0 :=
  ⟨fun _ => ⟨by omega, by omega, by omega⟩, rfl, ⟨by omega, by omega⟩, by omega, ⟨by omega, by omega⟩, ⟨by omega, by omega⟩, fun t => ⟨by omega, by show (0 : Int) + ((0 : Nat) : Int) + ((0 : Nat) : Int) ≤ 2 * 0; omega⟩, fun _ => ⟨by omega, by omega⟩, fun t h => by simp at h⟩
theorem kept_set {n n' : Nat} {md : Int → Int} {due held : List Tel} {g c : Tel → Int} {inN out lost twice : Int} (h : Kept n md due held g c inN out lost twice) (hn : n ≤ n') (p m : Int) (hm : m ≠ 4) : Kept n' (setD md p m) due held g c inN out lost twice := by
  refine ⟨fun x => ?_, h.sums, ⟨h.ins.1, by have := h.ins.2; omega⟩, h.outs, h.losts, h.twices, h.told, h.gs, h.keys⟩
  unfold setD
  by_cases hb : m < 0 ∨ 5 < m
  · rw [if_pos hb]; exact h.mode x
  · rw [if_neg hb]
    show 0 ≤ (if x = p then m else md x) ∧ (if x = p then m else md x) ≤ 5 ∧ (if x = p then m else md x) ≠ 4
    split
    · exact ⟨by omega, by omega, hm⟩
    · exact h.mode x
theorem kept_same {n n' : Nat} {md : Int → Int} {due held : List Tel} {g c : Tel → Int} {inN out lost twice : Int} (h : Kept n md due held g c inN out lost twice) (hn : n ≤ n') : Kept n' md due held g c inN out lost twice :=
  ⟨h.mode, h.sums, ⟨h.ins.1, by have := h.ins.2; omega⟩, h.outs, h.losts, h.twices, h.told, h.gs, h.keys⟩
theorem isM_le (md : Int → Int) (m : Int) (l : List Tel) : sumW (isM md m) l ≤ l.length := by
  rw [← sumW_one]
  exact sumW_le _ _ (fun t => by unfold isM one1; split <;> omega) l
theorem cnt_len (t : Tel) (l : List Tel) : cnt t l ≤ l.length := by
  rw [← sumW_one]
  exact sumW_le _ _ (fun x => by unfold isT one1; split <;> omega) l
/-- A cycle: what came out, and what is kept. -/
theorem kept_pass {n n' : Nat} {md : Int → Int} {due held : List Tel} {g c : Tel → Int} {inN out lost twice : Int} (h : Kept n md due held g c inN out lost twice) (l : List Tel) (hn : n + l.length ≤ n') (K : List Int) (hK : KeysOf K (due ++ held)) (hl : ∀ t ∈ l, KeyOk Try.prog 34 telV t) (D : List Tel × List Tel × List Tel) (hD : dPass md due held l K = D) :
    Kept n' md D.2.1 D.2.2 (addC g l) (addC c D.1) (inN + l.length) (out + D.1.length) (lost + sumW (isM md 1) l) (twice + sumW (isM md 3) l) ∧
    (∀ t ∈ D.1, KeyOk Try.prog 34 telV t) := by
  have hc := fun t => pass_w (isT t) md h.mode due held l K hK
  have h1 := pass_w one1 md h.mode due held l K hK
  rw [hD] at hc h1
  have hcs := cw_sum md l
  have hle := fun t => sumW_le (fun x => cw md x * isT t x) (fun x => 2 * isT t x) (fun x => Nat.mul_le_mul_right _ (cw_le md x)) l
  have hmem : ∀ t, 0 < cnt t D.1 + cnt t D.2.1 + cnt t D.2.2 → KeyOk Try.prog 34 telV t := fun t ht => by
    have h2 := hc t
    have h3 := hle t
    rw [sumW_mul] at h3
    unfold sumW3 at h2
    have h4 : 0 < cnt t due ∨ 0 < cnt t held ∨ 0 < cnt t l := by unfold cnt at ht ⊢; omega
    rcases h4 with h4 | h4 | h4
    · exact h.keys t (List.mem_append_left _ (cnt_mem h4))
    · exact h.keys t (List.mem_append_right _ (cnt_mem h4))
    · exact hl t (cnt_mem h4)
  have hm1 := isM_le md 1 l
  have hm3 := isM_le md 3 l
  have hs := h.sums
  have hi := h.ins
  have ho := h.outs
  have hlo := h.losts
  have htw := h.twices
  unfold sumW3 at h1
  simp only [sumW_one] at h1
  refine ⟨⟨h.mode, by omega, ⟨by omega, by omega⟩, by omega, ⟨by omega, by omega⟩, ⟨by omega, by omega⟩, fun t => ?_, fun t => ?_, fun t ht => ?_⟩, fun t ht => ?_⟩
  · obtain ⟨h5, h6⟩ := h.told t
    have h2 := hc t
    have h3 := hle t
    rw [sumW_mul] at h3
    unfold sumW3 at h2
    unfold addC cnt at *
    exact ⟨by omega, by omega⟩
  · obtain ⟨h5, h6⟩ := h.gs t
    have := cnt_len t l
    unfold addC
    exact ⟨by omega, by omega⟩
  · refine hmem t ?_
    rcases List.mem_append.1 ht with ht | ht
    · have := mem_cnt ht; omega
    · have := mem_cnt ht; omega
  · refine hmem t ?_
    have := mem_cnt ht; omega
end Go.Proofs.Ytoaajdmacngnjaa
namespace Go.Proofs.Ytoaajdmacngnjaa
open Go.RowKit Go.BK
/-- How far the counting of what goes in has come. -/
structure Cnt1 (md : Int → Int) (ls : List Tel) (gw : Tel → Int) (a l tw : Int) (j : Nat) (a1 l1 tw1 : Int) (gg : Tel → Int) : Prop where
  at' : j ≤ ls.length
  ins : a1 = a + j
  losts : l1 = l + sumW (isM md 1) (ls.take j)
  twices : tw1 = tw + sumW (isM md 3) (ls.take j)
  told : gg = addC gw (ls.take j)
section
variable {md : Int → Int} {ls : List Tel} {gw : Tel → Int} {a l tw : Int} {j : Nat} {a1 l1 tw1 : Int} {gg : Tel → Int} {x : Tel}
theorem cnt1_0 : Cnt1 md ls gw a l tw 0 a l tw gw := ⟨Nat.zero_le _, by omega, by show l = l + ((0 : Nat) : Int); omega, by show tw = tw + ((0 : Nat) : Int); omega, (addC_nil gw).symm⟩
theorem cnt1_1 (h : Cnt1 md ls gw a l tw j a1 l1 tw1 gg) (hj : j < ls.length) (hx : ls.getD j default = x) (c1 : md x.1 = 1) : Cnt1 md ls gw a l tw (j + 1) (a1 + 1) (l1 + 1) tw1 (cset gg x (gg x + 1)) := by
  obtain ⟨h1, h2, h3, h4, h5⟩ := h
  have e1 := sumW_snoc (isM md 1) ls j hj
  have e3 := sumW_snoc (isM md 3) ls j hj
  have eg := addC_next gw ls j hj
  rw [hx] at e1 e3 eg
  have f1 : isM md 1 x = 1 := if_pos c1
  have f3 : isM md 3 x = 0 := if_neg (by omega)
  exact ⟨hj, by omega, by omega, by omega, by rw [h5]; exact eg⟩
theorem cnt1_3 (h : Cnt1 md ls gw a l tw j a1 l1 tw1 gg) (hj : j < ls.length) (hx : ls.getD j default = x) (c3 : md x.1 = 3) : Cnt1 md ls gw a l tw (j + 1) (a1 + 1) l1 (tw1 + 1) (cset gg x (gg x + 1)) := by
  obtain ⟨h1, h2, h3, h4, h5⟩ := h
  have e1 := sumW_snoc (isM md 1) ls j hj
  have e3 := sumW_snoc (isM md 3) ls j hj
  have eg := addC_next gw ls j hj
  rw [hx] at e1 e3 eg
  have f1 : isM md 1 x = 0 := if_neg (by omega)
  have f3 : isM md 3 x = 1 := if_pos c3
  exact ⟨hj, by omega, by omega, by omega, by rw [h5]; exact eg⟩
theorem cnt1_n (h : Cnt1 md ls gw a l tw j a1 l1 tw1 gg) (hj : j < ls.length) (hx : ls.getD j default = x) (c1 : ¬ md x.1 = 1) (c3 : ¬ md x.1 = 3) : Cnt1 md ls gw a l tw (j + 1) (a1 + 1) l1 tw1 (cset gg x (gg x + 1)) := by
  obtain ⟨h1, h2, h3, h4, h5⟩ := h
  have e1 := sumW_snoc (isM md 1) ls j hj
  have e3 := sumW_snoc (isM md 3) ls j hj
  have eg := addC_next gw ls j hj
  rw [hx] at e1 e3 eg
  have f1 : isM md 1 x = 0 := if_neg c1
  have f3 : isM md 3 x = 0 := if_neg c3
  exact ⟨hj, by omega, by omega, by omega, by rw [h5]; exact eg⟩
end
theorem mode_put {mm : List (Int × Value)} {md : Int → Int} {p m : Int} (hm : ModeIs mm md) (h : ¬ (m < 0 ∨ 5 < m)) : ModeIs (mput p (i64 m) mm) (setD md p m) := fun x => by
  unfold setD
  rw [if_neg h, mget_put]
  show (if x = p then some (i64 m) else mget x mm).getD (i64 0) = i64 (if x = p then m else md x)
  by_cases e : x = p
  · rw [if_pos e, if_pos e]; rfl
  · rw [if_neg e, if_neg e]; exact hm x
set_option maxHeartbeats 4000000 in
set_option maxRecDepth 8000 in
theorem wiresKeep_law (v : Value) (os : List OpW) (w : World) (S : BSet) (hS : (sepL []).sat S w) (hv : Sees w S (.row 4 v os.length (os.flatMap opWC))) (ho : ∀ o ∈ os, o.Good w S) (hm : muW os ≤ 1048576) :
    Tri Try.prog 4 #[v] w S fun u A => u = .bool true := by
  refine Tri.enter (l := [v]) Try.func4 rfl Try.ntmps4 rfl [(0, v)] (subA rfl) hS ?_
  have hol := len_mu os
  repeat first
    | (apply WL.q; exact rfl; exact rfl; exact rfl; (first | (apply EvW.assign; exact rfl)))
    | refine WC.seq ?_ | refine WC.region ?_ | refine WL.nil ?_ | refine WE.next ?_
  try refine WL.wanted rfl rfl rfl ?_
  apply WL.callA ([])
  · exact rfl
  · exact rfl
  · exact fun w => Try.call9 _ w
  · (focus ((repeat constructor); done))
  · exact fun w1 S1 hS1 hs1 ho1 => lives20_spec w1 S1 hS1
  rintro _ _ ⟨rfl, rfl⟩
  first | refine WL.app4 ?_ | refine WL.app3 ?_ | refine WL.app2 ?_ | refine WL.app1 ?_ | refine WL.app0 ?_ | skip
  repeat first
    | (apply WL.q; exact rfl; exact rfl; exact rfl; (first | (apply EvW.notT; exact rfl)))
    | refine WC.seq ?_ | refine WC.region ?_ | refine WL.nil ?_ | refine WE.next ?_ | refine WC.skip ?_ | refine WC.condF rfl ?_
  try refine WL.wanted rfl rfl rfl ?_
  apply WL.callA ([])
  · exact rfl
  · exact rfl
  · exact fun w => Try.call10 _ w
  · (focus ((repeat constructor); done))
  · exact fun w1 S1 hS1 hs1 ho1 => wnew_spec w1 S1 hS1
  rintro _ _ ⟨wb, rfl, rfl⟩
  first | refine WL.app4 ?_ | refine WL.app3 ?_ | refine WL.app2 ?_ | refine WL.app1 ?_ | refine WL.app0 ?_ | skip
  repeat first
    | (apply WL.q; exact rfl; exact rfl; exact rfl; (first | (apply EvW.assign; exact rfl)))
    | refine WC.seq ?_ | refine WC.region ?_ | refine WL.nil ?_ | refine WE.next ?_
  (apply WL.makeMapC (P := Try.prog) (k := 34) (kv := telV); exact rfl; intro gb)
  skip
  (apply WL.makeMapC (P := Try.prog) (k := 34) (kv := telV); exact rfl; intro cb)
  repeat first
    | (apply WL.q; exact rfl; exact rfl; exact rfl; (first | (apply EvW.assign; exact rfl)))
    | refine WC.seq ?_ | refine WC.region ?_ | refine WL.nil ?_ | refine WE.next ?_
  try refine WL.wanted rfl rfl rfl ?_
  (apply WL.makeMap; exact rfl; intro mo)
  repeat first
    | (apply WL.q; exact rfl; exact rfl; exact rfl; (first | (apply EvW.move; exact rfl) | (apply EvW.assign; exact rfl) | (apply EvW.lenRow; exact rfl; exact UndC.eq; assumption)))
    | refine WC.seq ?_ | refine WC.region ?_ | refine WL.nil ?_ | refine WE.next ?_ | refine WC.block ?_
  refine WC.loopK (σ := Nat × List Wr × (Int → Int) × List Tel × List Tel × (Tel → Int) × (Tel → Int) × Int × Int × Int × Int × List (Int × Value)) [3, 4, 5, 10, 23, 24] (fun s => [(25, i64 s.1), (6, i64 s.2.2.2.2.2.2.2.1), (7, i64 s.2.2.2.2.2.2.2.2.1), (8, i64 s.2.2.2.2.2.2.2.2.2.1), (9, i64 s.2.2.2.2.2.2.2.2.2.2.1)]) (fun s => [wiresH wb s.2.1, HP.cmap Try.prog 34 telV gb (s.2.2.2.2.2.1) CAny, HP.cmap Try.prog 34 telV cb (s.2.2.2.2.2.2.1) CAny, .imap mo s.2.2.2.2.2.2.2.2.2.2.2]) (fun s => s.1 ≤ os.length ∧ Inv (muW (os.take s.1)) s.2.1 ∧ Rel s.2.1 s.2.2.1 s.2.2.2.1 s.2.2.2.2.1 ∧ ModeIs s.2.2.2.2.2.2.2.2.2.2.2 s.2.2.1 ∧ Kept (muW (os.take s.1)) s.2.2.1 s.2.2.2.1 s.2.2.2.2.1 s.2.2.2.2.2.1 s.2.2.2.2.2.2.1 s.2.2.2.2.2.2.2.1 s.2.2.2.2.2.2.2.2.1 s.2.2.2.2.2.2.2.2.2.1 s.2.2.2.2.2.2.2.2.2.2.1) (fun s => os.length - s.1) (0, [], (fun _ => 0), [], [], (fun _ => 0), (fun _ => 0), 0, 0, 0, 0, []) (by (focus ((repeat (first | exact Pick.nil | (apply Pick.cons; exact rfl))); done))) (by (focus ((repeat (first | exact trivial | (refine ⟨rfl, ?_⟩))); done))) (fun _ h => h.keep (by repeat constructor)) ⟨Nat.zero_le _, inv_nil _, rel_nil, fun _ => rfl, kept_nil _⟩ (fun s hs => ?_)
  obtain ⟨i, xs, md, due, held, gw, cm, a, b, l, tw, mm⟩ := s
  simp only [List.cons_append, List.nil_append] at hs ⊢
  obtain ⟨hi0, hI, hR, hmo, hKe⟩ := hs
  have hund := rel_under hR hI.nodup
  have hul := hI.und
  have hml0 := muW_le os i
  have hins := hKe.ins
  have hls := hKe.losts
  have htws := hKe.twices
  have hsums := hKe.sums
  have houts := hKe.outs
  by_cases hlt2 : (i : Int) < os.length
  · have hi : i < os.length := by omega
    have hmt := muW_take os i hi
    have hml := muW_le os (i + 1)
    have hog : (os.getD i default).Good w S := ho _ (by rw [List.getD_eq_getElem?_getD, List.getElem?_eq_getElem hi]; exact List.getElem_mem hi)
    have hone := opW_one hog
    obtain ⟨hor, hop, hotx⟩ := hog
    repeat first
      | (apply WL.q; exact rfl; exact rfl; exact rfl; (first | (apply EvW.cmpT; exact rfl; exact rfl; exact rfl; omega) | (apply EvW.idxRow; exact rfl; exact rfl; exact UndC.eq; exact SzC.eq; assumption; omega; omega)))
      | refine WC.seq ?_ | refine WC.region ?_ | refine WL.nil ?_ | refine WE.next ?_ | refine WC.block ?_ | refine WC.skip ?_ | refine WC.condT rfl ?_
    (apply WL.q; exact rfl; exact rfl; exact rfl; (apply EvW.ldElem (xs := os) (z := (default : OpW)) (f := opWC); exact rfl; exact AggC.eq; exact SzC.eq; exact rfl; exact fun _ => rfl; assumption; omega))
    try refine WL.wanted rfl rfl rfl ?_
    (apply WL.alloc; exact rfl; exact ZvC.eq; exact rfl; intro ob)
    rw [show ((i : Nat) : Int).toNat = i from rfl]
    obtain ⟨o, hoo⟩ : ∃ o, os.getD i default = o := ⟨_, rfl⟩
    rw [hoo] at hmt hor hop hotx hone ⊢
    unfold opMuW at hmt
    cases hset : o.set with
    | true =>
      repeat first
        | (apply WL.q; exact rfl; exact rfl; exact rfl; (first | (apply EvW.fieldAddr0; exact rfl; exact FldC.eq) | (apply EvW.load; exact rfl; exact ScalC.eq; (focus ((repeat constructor); done)); exact rfl)))
        | refine WC.seq ?_ | refine WC.region ?_ | refine WL.nil ?_ | refine WE.next ?_ | (apply WL.store; exact rfl; exact rfl; (first | assumption | exact rfl); exact SzC.eq; (first | assumption | exact rfl); (focus ((repeat constructor); done)))
      rw [hset]
      have hnn : muW (os.take i) ≤ muW (os.take (i + 1)) := by omega
      by_cases h4 : o.m = 4
      · have hI2 : Inv (muW (os.take (i + 1))) xs := ⟨hI.nodup, hI.wf, by have := hI.len; omega, by omega⟩
        repeat first
          | (apply WL.q; exact rfl; exact rfl; exact rfl; (first | (apply EvW.move; exact rfl) | (apply EvW.fieldAddr0; exact rfl; exact FldC.eq) | (apply EvW.load; exact rfl; exact ScalC.eq; (focus ((repeat constructor); done)); exact rfl) | (apply EvW.cmpT; exact rfl; exact rfl; exact rfl; omega) | (apply EvW.arN; exact rfl; exact rfl; exact rfl; refine i64_in ?_ ?_ <;> omega)))
          | refine WC.seq ?_ | refine WC.region ?_ | refine WL.nil ?_ | refine WE.next ?_ | refine WC.exit ?_ | refine WE.pass ?_ | refine WE.hit ?_ | refine WC.condT rfl ?_
        exact WE.again (s := (i, xs, md, due, held, gw, cm, a, b, l, tw, mm)) ((i + 1, xs, md, due, held, gw, cm, a, b, l, tw, mm)) ⟨by simp only []; omega, hI2, hR, hmo, kept_same hKe hnn⟩ (by (focus ((repeat (first | exact trivial | (refine ⟨rfl, ?_⟩))); done))) (fun _ h => (by (try simp only []); exact h.keep (by repeat constructor))) (by (try simp only []); omega)
      have hI2 : Inv (muW (os.take (i + 1))) (setF xs o.p o.m) := by
        have h := inv_setF (m := o.m) hI hop
        exact ⟨h.nodup, h.wf, by have := h.len; omega, by have := h.und; omega⟩
      have hR2 := rel_set hR o.p o.m
      have hK2 := kept_set hKe hnn o.p o.m h4
      repeat first
        | (apply WL.q; exact rfl; exact rfl; exact rfl; (first | (apply EvW.move; exact rfl) | (apply EvW.fieldAddr0; exact rfl; exact FldC.eq) | (apply EvW.load; exact rfl; exact ScalC.eq; (focus ((repeat constructor); done)); exact rfl) | (apply EvW.cmpF; exact rfl; exact rfl; exact rfl; omega)))
        | refine WC.seq ?_ | refine WC.region ?_ | refine WL.nil ?_ | refine WE.next ?_ | refine WC.skip ?_ | refine WC.condT rfl ?_ | refine WC.condF rfl ?_
      try refine WL.wanted rfl rfl rfl ?_
      apply WL.callA ([wiresH wb xs])
      · exact rfl
      · exact rfl
      · exact fun w => Try.call12 _ w
      · (focus ((repeat constructor); done))
      · exact fun w1 S1 hS1 hs1 ho1 => set_spec wb xs o.p o.m w1 S1 hS1
      rintro _ _ ⟨rfl, rfl⟩
      first | refine WL.app4 ?_ | refine WL.app3 ?_ | refine WL.app2 ?_ | refine WL.app1 ?_ | refine WL.app0 ?_ | skip
      by_cases hb : o.m < 0 ∨ 5 < o.m
      · rw [if_pos hb]
        have hmo2 : ModeIs mm (setD md o.p o.m) := by unfold setD; rw [if_pos hb]; exact hmo
        repeat first
          | (apply WL.q; exact rfl; exact rfl; exact rfl; (first | (apply EvW.move; exact rfl) | (apply EvW.cmpF; exact rfl; exact rfl; exact rfl; omega) | (apply EvW.arN; exact rfl; exact rfl; exact rfl; refine i64_in ?_ ?_ <;> omega)))
          | refine WC.region ?_ | refine WL.nil ?_ | refine WE.next ?_ | refine WC.skip ?_ | refine WC.exit ?_ | refine WE.pass ?_ | refine WE.hit ?_ | refine WC.condF rfl ?_
        exact WE.again (s := (i, xs, md, due, held, gw, cm, a, b, l, tw, mm)) ((i + 1, setF xs o.p o.m, setD md o.p o.m, due, held, gw, cm, a, b, l, tw, mm)) ⟨by simp only []; omega, hI2, hR2, hmo2, hK2⟩ (by (focus ((repeat (first | exact trivial | (refine ⟨rfl, ?_⟩))); done))) (fun _ h => (by (try simp only []); exact h.keep (by repeat constructor))) (by (try simp only []); omega)
      · rw [if_neg hb]
        have hmo2 := mode_put hmo (p := o.p) hb
        repeat first
          | (apply WL.q; exact rfl; exact rfl; exact rfl; (first | (apply EvW.move; exact rfl) | (apply EvW.fieldAddr0; exact rfl; exact FldC.eq) | (apply EvW.load; exact rfl; exact ScalC.eq; (focus ((repeat constructor); done)); exact rfl) | (apply EvW.cmpT; exact rfl; exact rfl; exact rfl; omega) | (apply EvW.arN; exact rfl; exact rfl; exact rfl; refine i64_in ?_ ?_ <;> omega)))
          | refine WC.region ?_ | refine WL.nil ?_ | refine WE.next ?_ | refine WC.exit ?_ | refine WE.pass ?_ | refine WE.hit ?_ | refine WC.condT rfl ?_ | (apply WL.mapUpdate; exact rfl; exact rfl; exact rfl; exact UndC.eq; exact UndC.eq; (focus ((repeat (first | apply UpdM.head | apply UpdM.tail)); done)))
        exact WE.again (s := (i, xs, md, due, held, gw, cm, a, b, l, tw, mm)) ((i + 1, setF xs o.p o.m, setD md o.p o.m, due, held, gw, cm, a, b, l, tw, mput o.p (i64 o.m) mm)) ⟨by simp only []; omega, hI2, hR2, hmo2, hK2⟩ (by (focus ((repeat (first | exact trivial | (refine ⟨rfl, ?_⟩))); done))) (fun _ h => (by (try simp only []); exact h.keep (by repeat constructor))) (by (try simp only []); omega)
    | false =>
      repeat first
        | (apply WL.q; exact rfl; exact rfl; exact rfl; (first | (apply EvW.fieldAddr0; exact rfl; exact FldC.eq) | (apply EvW.load; exact rfl; exact ScalC.eq; (focus ((repeat constructor); done)); exact rfl)))
        | refine WC.seq ?_ | refine WC.region ?_ | refine WL.nil ?_ | refine WE.next ?_ | (apply WL.store; exact rfl; exact rfl; (first | assumption | exact rfl); exact SzC.eq; (first | assumption | exact rfl); (focus ((repeat constructor); done)))
      rw [hset]
      obtain ⟨hR2, hout⟩ := rel_pass hR o.ls
      have hK := keysD_of hR hI.nodup
      have hI2 : Inv (muW (os.take (i + 1))) (passF xs o.ls).1 := by
        have h := inv_pass (l := o.ls) hI (fun t ht => (hotx t ht).1)
        exact ⟨h.nodup, h.wf, by have := h.len; omega, by have := h.und; omega⟩
      have hbd := pass_bd xs o.ls hI.nodup
      rw [hout] at hbd
      have hkl : ∀ t ∈ o.ls, KeyOk Try.prog 34 telV t := fun t ht => tel_key (hotx t ht).1 (Nat.le_trans (hotx t ht).2 (by decide))
      have hu1 : underF xs + o.ls.length ≤ 2147483648 := by omega
      have hu3 : underF (passF xs o.ls).1 ≤ 2147483648 := by omega
      have hund2 := rel_under hR2 hI2.nodup
      repeat first
        | (apply WL.q; exact rfl; exact rfl; exact rfl; (first | (apply EvW.move; exact rfl) | (apply EvW.fieldAddr0; exact rfl; exact FldC.eq) | (apply EvW.load; exact rfl; exact ScalC.eq; (focus ((repeat constructor); done)); exact rfl) | (apply EvW.lenRow; exact rfl; exact UndC.eq; assumption)))
        | refine WC.seq ?_ | refine WC.region ?_ | refine WL.nil ?_ | refine WE.next ?_ | refine WC.block ?_ | refine WC.skip ?_ | refine WC.condF rfl ?_
      refine WC.loopK (σ := Nat × Int × Int × Int × (Tel → Int)) [3, 4, 5, 7, 10, 12, 23, 24, 25, 47, 48] (fun s => [(49, i64 s.1), (6, i64 s.2.1), (8, i64 s.2.2.1), (9, i64 s.2.2.2.1)]) (fun s => [wiresH wb xs, HP.cmap Try.prog 34 telV gb (s.2.2.2.2) CAny, HP.cmap Try.prog 34 telV cb (cm) CAny, .imap mo mm, .blk ob #[.bool false, i64 o.p, i64 o.m, o.v] 30]) (fun s => Cnt1 md o.ls gw a l tw s.1 s.2.1 s.2.2.1 s.2.2.2.1 s.2.2.2.2) (fun s => o.ls.length - s.1) (0, a, l, tw, gw) (by (focus ((repeat (first | exact Pick.nil | (apply Pick.cons; exact rfl))); done))) (by (focus ((repeat (first | exact trivial | (refine ⟨rfl, ?_⟩))); done))) (fun _ h => h.keep (by repeat constructor)) cnt1_0 (fun s hs => ?_)
      obtain ⟨j, a1, l1, tw1, gg⟩ := s
      simp only [List.cons_append, List.nil_append] at hs ⊢
      have hj0 := hs.at'
      have ha1 := hs.ins
      have hl1 := hs.losts
      have htw1 := hs.twices
      have hm1 := sumW_take (isM md 1) o.ls j
      have hm1l := isM_le md 1 o.ls
      have hm3 := sumW_take (isM md 3) o.ls j
      have hm3l := isM_le md 3 o.ls
      by_cases hlt3 : (j : Int) < o.ls.length
      · have hj : j < o.ls.length := by omega
        repeat first
          | (apply WL.q; exact rfl; exact rfl; exact rfl; (first | (apply EvW.cmpT; exact rfl; exact rfl; exact rfl; omega) | (apply EvW.idxRow; exact rfl; exact rfl; exact UndC.eq; exact SzC.eq; assumption; omega; omega)))
          | refine WC.seq ?_ | refine WC.region ?_ | refine WL.nil ?_ | refine WE.next ?_ | refine WC.block ?_ | refine WC.skip ?_ | refine WC.condT rfl ?_
        (apply WL.q; exact rfl; exact rfl; exact rfl; (apply EvW.ldElem (xs := o.ls) (z := (default : Tel)) (f := telC); exact rfl; exact AggC.eq; exact SzC.eq; exact rfl; exact fun _ => rfl; assumption; omega))
        try refine WL.wanted rfl rfl rfl ?_
        (apply WL.alloc; exact rfl; exact ZvC.eq; exact rfl; intro tb)
        rw [show ((j : Nat) : Int).toNat = j from rfl]
        obtain ⟨x, hx⟩ : ∃ x, o.ls.getD j default = x := ⟨_, rfl⟩
        have hkx : KeyOk Try.prog 34 telV x := hkl x (by rw [← hx, List.getD_eq_getElem?_getD, List.getElem?_eq_getElem hj]; exact List.getElem_mem hj)
        have hgx : 0 ≤ gg x ∧ gg x ≤ 8388608 := by
          have h1 := hKe.gs x
          have h2 := cnt_len x (o.ls.take j)
          have h3 := hs.told
          rw [h3]
          rw [List.length_take] at h2
          unfold addC
          exact ⟨by omega, by omega⟩
        rw [hx]
        repeat first
          | refine WC.seq ?_ | refine WL.nil ?_ | refine WE.next ?_ | (apply WL.store; exact rfl; exact rfl; (first | assumption | exact rfl); exact SzC.eq; (first | assumption | exact rfl); (focus ((repeat constructor); done)))
        refine WC.stamp (b := gb) (g := gg) x (by repeat constructor) fun st => ?_
        refine WC.keep (xs := [HP.cmap Try.prog 34 telV gb (gg) (CAt telV x st), .blk tb #[i64 x.1, str x.2] 34, wiresH wb xs, HP.cmap Try.prog 34 telV cb (cm) CAny, .imap mo mm, .blk ob #[.bool false, i64 o.p, i64 o.m, o.v] 30]) (by repeat constructor) ?_
        repeat refine WC.seq ?_
        apply WC.drawE ([[HP.cmap Try.prog 34 telV gb (gg) (CAt telV x st), .blk tb #[i64 x.1, str x.2] 34, wiresH wb xs, HP.cmap Try.prog 34 telV cb (cm) CAny, .imap mo mm, .blk ob #[.bool false, i64 o.p, i64 o.m, o.v] 30], [HP.cmap Try.prog 34 telV gb (gg) (CIn telV x st), .blk tb #[i64 x.1, str x.2] 34, wiresH wb xs, HP.cmap Try.prog 34 telV cb (cm) CAny, .imap mo mm, .blk ob #[.bool false, i64 o.p, i64 o.m, o.v] 30], [HP.cmap Try.prog 34 telV gb (cset gg x (gg x + 1)) CAny, .blk tb #[i64 x.1, str x.2] 34, wiresH wb xs, HP.cmap Try.prog 34 telV cb (cm) CAny, .imap mo mm, .blk ob #[.bool false, i64 o.p, i64 o.m, o.v] 30]]) ([4, 6]) Try.mixed
        · (focus ((repeat (first | exact Restr.nil | (apply Restr.keep; exact rfl; exact rfl) | (apply Restr.drop; exact rfl))); done))
        · exact rfl
        · exact rfl
        · decide +kernel
        · decide +kernel
        · decide +kernel
        · decide +kernel
        · repeat first
              | exact Draws.nil
              | (apply Draws.skip; exact rfl; exact rfl)
              | (apply Draws.at 0; exact rfl; decide +kernel
                 (first | (apply EvW.move; exact rfl) | (apply EvW.loadAgg; exact rfl; exact AggC.eq; exact SzC.eq; (focus ((repeat constructor); done)); (focus ((repeat (first | exact SubL.nil | apply SubL.cons | apply SubL.succ)); done)))))
              | (apply Draws.at 1; exact rfl; decide +kernel
                 fail)
              | (apply Draws.two 0; exact rfl; decide +kernel
                 fail
                 fail)
              | (apply Draws.at 2; exact rfl; decide +kernel
                 fail)
              | (apply Draws.two 1; exact rfl; decide +kernel
                 fail
                 fail)
          (apply Draws.two 0; exact rfl; decide +kernel; (apply EvW.lookupC (a := x) tel_law; exact rfl; exact rfl; exact hkx; exact UndC.eq; exact ZvC.eq; (focus ((repeat constructor); done))); (apply EvW.lookupC (a := x) tel_law; exact rfl; exact rfl; exact hkx; exact UndC.eq; exact ZvC.eq; (focus ((repeat constructor); done))))
          repeat first
              | exact Draws.nil
              | (apply Draws.skip; exact rfl; exact rfl)
              | (apply Draws.at 0; exact rfl; decide +kernel
                 fail)
              | (apply Draws.at 1; exact rfl; decide +kernel
                 fail)
              | (apply Draws.two 0; exact rfl; decide +kernel
                 (first | (apply EvW.arN; exact rfl; exact rfl; exact rfl; refine i64_in ?_ ?_ <;> omega))
                 (first | (apply EvW.arN; exact rfl; exact rfl; exact rfl; refine i64_in ?_ ?_ <;> omega)))
              | (apply Draws.at 2; exact rfl; decide +kernel
                 fail)
              | (apply Draws.two 1; exact rfl; decide +kernel
                 fail
                 fail)
          apply Draws.eff _ (0) rfl rfl
          · (apply EffW.mapEntryC (a := x) (st := st) tel_law; exact rfl; exact rfl; exact hkx; exact UndC.eq; exact ZvC.eq; exact .head)
          repeat first
              | exact Draws.nil
              | (apply Draws.skip; exact rfl; exact rfl)
              | (apply Draws.at 0; exact rfl; decide +kernel
                 fail)
              | (apply Draws.at 1; exact rfl; decide +kernel
                 (first | (apply EvW.extract; exact rfl; exact rfl)))
              | (apply Draws.two 0; exact rfl; decide +kernel
                 fail
                 fail)
              | (apply Draws.at 2; exact rfl; decide +kernel
                 fail)
              | (apply Draws.two 1; exact rfl; decide +kernel
                 fail
                 fail)
          apply Draws.eff _ (1) rfl rfl
          · (apply EffW.entryStoreC (a := x) (st := st) (v := gg x + 1) tel_law; exact rfl; exact rfl; exact rfl; exact .head)
          repeat first
              | exact Draws.nil
              | (apply Draws.skip; exact rfl; exact rfl)
              | (apply Draws.at 0; exact rfl; decide +kernel
                 fail)
              | (apply Draws.at 1; exact rfl; decide +kernel
                 fail)
              | (apply Draws.two 0; exact rfl; decide +kernel
                 fail
                 fail)
              | (apply Draws.at 2; exact rfl; decide +kernel
                 fail)
              | (apply Draws.two 1; exact rfl; decide +kernel
                 fail
                 fail)
        apply WE.writ
        · (focus ((repeat (first | exact Writ.nil | apply Writ.some | apply Writ.none)); done))
        by_cases c1 : md x.1 = 1
        · have c3 : ¬ md x.1 = 3 := by omega
          repeat first
            | (apply WL.q; exact rfl; exact rfl; exact rfl; (first | (apply EvW.move; exact rfl) | (apply EvW.assign; exact rfl) | (apply EvW.fieldAddr0; exact rfl; exact FldC.eq) | (apply EvW.load; exact rfl; exact ScalC.eq; (focus ((repeat constructor); done)); exact rfl) | (apply EvW.arN; exact rfl; exact rfl; exact rfl; refine i64_in ?_ ?_ <;> omega) | (apply EvW.lookup; exact rfl; exact rfl; exact UndC.eq; exact UndC.eq; exact ZvC.eq; (focus ((repeat constructor); done)))))
            | refine WC.seq ?_ | refine WC.region ?_ | refine WL.nil ?_ | refine WE.next ?_
          rw [hmo x.1]
          repeat first
            | (apply WL.q; exact rfl; exact rfl; exact rfl; (first | (apply EvW.move; exact rfl) | (apply EvW.assign; exact rfl) | (apply EvW.fieldAddr0; exact rfl; exact FldC.eq) | (apply EvW.load; exact rfl; exact ScalC.eq; (focus ((repeat constructor); done)); exact rfl) | (apply EvW.cmpT; exact rfl; exact rfl; exact rfl; omega) | (apply EvW.arN; exact rfl; exact rfl; exact rfl; refine i64_in ?_ ?_ <;> omega) | (apply EvW.lookup; exact rfl; exact rfl; exact UndC.eq; exact UndC.eq; exact ZvC.eq; (focus ((repeat constructor); done)))))
            | refine WC.seq ?_ | refine WC.region ?_ | refine WL.nil ?_ | refine WE.next ?_ | refine WC.condT rfl ?_
          rw [hmo x.1]
          repeat first
            | (apply WL.q; exact rfl; exact rfl; exact rfl; (first | (apply EvW.move; exact rfl) | (apply EvW.cmpF; exact rfl; exact rfl; exact rfl; omega) | (apply EvW.arN; exact rfl; exact rfl; exact rfl; refine i64_in ?_ ?_ <;> omega)))
            | refine WC.region ?_ | refine WL.nil ?_ | refine WE.next ?_ | refine WC.skip ?_ | refine WE.out ?_ | refine WC.condF rfl ?_
          exact WE.again (s := (j, a1, l1, tw1, gg)) ((j + 1, a1 + 1, l1 + 1, tw1, cset gg x (gg x + 1))) (cnt1_1 hs hj hx c1) (by (focus ((repeat (first | exact trivial | (refine ⟨rfl, ?_⟩))); done))) (fun _ h => (by (try simp only []); exact h.keep (by repeat constructor))) (by (try simp only []); omega)
        by_cases c3 : md x.1 = 3
        · repeat first
            | (apply WL.q; exact rfl; exact rfl; exact rfl; (first | (apply EvW.move; exact rfl) | (apply EvW.assign; exact rfl) | (apply EvW.fieldAddr0; exact rfl; exact FldC.eq) | (apply EvW.load; exact rfl; exact ScalC.eq; (focus ((repeat constructor); done)); exact rfl) | (apply EvW.arN; exact rfl; exact rfl; exact rfl; refine i64_in ?_ ?_ <;> omega) | (apply EvW.lookup; exact rfl; exact rfl; exact UndC.eq; exact UndC.eq; exact ZvC.eq; (focus ((repeat constructor); done)))))
            | refine WC.seq ?_ | refine WC.region ?_ | refine WL.nil ?_ | refine WE.next ?_
          rw [hmo x.1]
          repeat first
            | (apply WL.q; exact rfl; exact rfl; exact rfl; (first | (apply EvW.move; exact rfl) | (apply EvW.fieldAddr0; exact rfl; exact FldC.eq) | (apply EvW.load; exact rfl; exact ScalC.eq; (focus ((repeat constructor); done)); exact rfl) | (apply EvW.cmpF; exact rfl; exact rfl; exact rfl; omega) | (apply EvW.lookup; exact rfl; exact rfl; exact UndC.eq; exact UndC.eq; exact ZvC.eq; (focus ((repeat constructor); done)))))
            | refine WC.seq ?_ | refine WC.region ?_ | refine WL.nil ?_ | refine WE.next ?_ | refine WC.skip ?_ | refine WC.condF rfl ?_
          rw [hmo x.1]
          repeat first
            | (apply WL.q; exact rfl; exact rfl; exact rfl; (first | (apply EvW.move; exact rfl) | (apply EvW.assign; exact rfl) | (apply EvW.cmpT; exact rfl; exact rfl; exact rfl; omega) | (apply EvW.arN; exact rfl; exact rfl; exact rfl; refine i64_in ?_ ?_ <;> omega)))
            | refine WC.region ?_ | refine WL.nil ?_ | refine WE.next ?_ | refine WE.out ?_ | refine WC.condT rfl ?_
          exact WE.again (s := (j, a1, l1, tw1, gg)) ((j + 1, a1 + 1, l1, tw1 + 1, cset gg x (gg x + 1))) (cnt1_3 hs hj hx c3) (by (focus ((repeat (first | exact trivial | (refine ⟨rfl, ?_⟩))); done))) (fun _ h => (by (try simp only []); exact h.keep (by repeat constructor))) (by (try simp only []); omega)
        repeat first
          | (apply WL.q; exact rfl; exact rfl; exact rfl; (first | (apply EvW.move; exact rfl) | (apply EvW.assign; exact rfl) | (apply EvW.fieldAddr0; exact rfl; exact FldC.eq) | (apply EvW.load; exact rfl; exact ScalC.eq; (focus ((repeat constructor); done)); exact rfl) | (apply EvW.arN; exact rfl; exact rfl; exact rfl; refine i64_in ?_ ?_ <;> omega) | (apply EvW.lookup; exact rfl; exact rfl; exact UndC.eq; exact UndC.eq; exact ZvC.eq; (focus ((repeat constructor); done)))))
          | refine WC.seq ?_ | refine WC.region ?_ | refine WL.nil ?_ | refine WE.next ?_
        rw [hmo x.1]
        repeat first
          | (apply WL.q; exact rfl; exact rfl; exact rfl; (first | (apply EvW.move; exact rfl) | (apply EvW.fieldAddr0; exact rfl; exact FldC.eq) | (apply EvW.load; exact rfl; exact ScalC.eq; (focus ((repeat constructor); done)); exact rfl) | (apply EvW.cmpF; exact rfl; exact rfl; exact rfl; omega) | (apply EvW.lookup; exact rfl; exact rfl; exact UndC.eq; exact UndC.eq; exact ZvC.eq; (focus ((repeat constructor); done)))))
          | refine WC.seq ?_ | refine WC.region ?_ | refine WL.nil ?_ | refine WE.next ?_ | refine WC.skip ?_ | refine WC.condF rfl ?_
        rw [hmo x.1]
        repeat first
          | (apply WL.q; exact rfl; exact rfl; exact rfl; (first | (apply EvW.move; exact rfl) | (apply EvW.cmpF; exact rfl; exact rfl; exact rfl; omega) | (apply EvW.arN; exact rfl; exact rfl; exact rfl; refine i64_in ?_ ?_ <;> omega)))
          | refine WC.region ?_ | refine WL.nil ?_ | refine WE.next ?_ | refine WC.skip ?_ | refine WE.out ?_ | refine WC.condF rfl ?_
        exact WE.again (s := (j, a1, l1, tw1, gg)) ((j + 1, a1 + 1, l1, tw1, cset gg x (gg x + 1))) (cnt1_n hs hj hx c1 c3) (by (focus ((repeat (first | exact trivial | (refine ⟨rfl, ?_⟩))); done))) (fun _ h => (by (try simp only []); exact h.keep (by repeat constructor))) (by (try simp only []); omega)
      have hjl : j = o.ls.length := by omega
      have hgg := hs.told
      rw [hjl, addC_full _ _ _ (Nat.le_refl _)] at hgg
      rw [hjl, List.take_length] at hl1 htw1
      rw [hgg]
      repeat first
        | (apply WL.q; exact rfl; exact rfl; exact rfl; (first | (apply EvW.move; exact rfl) | (apply EvW.fieldAddr0; exact rfl; exact FldC.eq) | (apply EvW.load; exact rfl; exact ScalC.eq; (focus ((repeat constructor); done)); exact rfl) | (apply EvW.cmpF; exact rfl; exact rfl; exact rfl; omega)))
        | refine WC.seq ?_ | refine WC.region ?_ | refine WL.nil ?_ | refine WE.next ?_ | refine WC.exit ?_ | refine WE.pass ?_ | refine WE.hit ?_ | refine WC.condF rfl ?_
      try refine WL.wanted rfl rfl rfl ?_
      apply WL.callA ([wiresH wb xs])
      · exact rfl
      · exact rfl
      · exact fun w => Try.call14 _ w
      · (focus ((repeat constructor); done))
      · exact fun w1 S1 hS1 hs1 ho1 => pass_spec wb xs o.v o.ls w1 S1 hS1 (hs1 _ hor) (hI.ok (by omega)) hu1 (fun t ht => (hotx t ht).2)
      rintro _ _ rfl
      first | refine WL.app4 ?_ | refine WL.app3 ?_ | refine WL.app2 ?_ | refine WL.app1 ?_ | refine WL.app0 ?_ | skip
      rename_i x2
      rw [hout]
      obtain ⟨D, hD⟩ : ∃ D, dPass md due held o.ls (keysD xs due held) = D := ⟨_, rfl⟩
      rw [hD] at hR2 hbd hund2 ⊢
      obtain ⟨hK2, hkD⟩ := kept_pass hKe o.ls (n' := muW (os.take (i + 1))) (by omega) (keysD xs due held) hK hkl D hD
      generalize (passF xs o.ls).1 = ys at hR2 hI2 hu3 hund2 hbd ⊢
      have hDl : D.1.length ≤ 4294967296 := by omega
      (first | refine WL.slOwn (v := x2) (by repeat constructor) ?_ | refine WC.slOwn (v := x2) (by repeat constructor) ?_)
      intro hc_x2 ho_x2
      repeat first
        | (apply WL.q; exact rfl; exact rfl; exact rfl; (first | (apply EvW.move; exact rfl) | (apply EvW.lenOwn; exact rfl; exact UndC.eq; (focus ((repeat constructor); done)))))
        | refine WL.nil ?_ | refine WE.next ?_ | refine WC.block ?_
      refine WC.loopK (σ := Nat × Int × (Tel → Int)) [3, 4, 5, 6, 8, 9, 10, 23, 24, 25, 79, 80] (fun s => [(81, i64 s.1), (7, i64 s.2.1)]) (fun s => [wiresH wb ys, HP.cmap Try.prog 34 telV gb (addC gw o.ls) CAny, HP.cmap Try.prog 34 telV cb (s.2.2) CAny, .imap mo mm, .own 34 2 (x2) (D.1).length ((D.1).flatMap telC), .blk ob #[.bool false, i64 o.p, i64 o.m, o.v] 30]) (fun s => s.1 ≤ D.1.length ∧ s.2.1 = b + s.1 ∧ s.2.2 = addC cm (D.1.take s.1)) (fun s => D.1.length - s.1) (0, b, cm) (by (focus ((repeat (first | exact Pick.nil | (apply Pick.cons; exact rfl))); done))) (by (focus ((repeat (first | exact trivial | (refine ⟨rfl, ?_⟩))); done))) (fun _ h => h.keep (by repeat constructor)) ⟨Nat.zero_le _, by simp only []; omega, (addC_nil cm).symm⟩ (fun s hs => ?_)
      obtain ⟨j2, b1, gc⟩ := s
      simp only [List.cons_append, List.nil_append] at hs ⊢
      obtain ⟨hj20, hb1, hgc⟩ := hs
      by_cases hlt4 : (j2 : Int) < D.1.length
      · have hj2 : j2 < D.1.length := by omega
        repeat first
          | (apply WL.q; exact rfl; exact rfl; exact rfl; (first | (apply EvW.cmpT; exact rfl; exact rfl; exact rfl; omega) | (apply EvW.idxOwn; exact rfl; exact rfl; exact UndC.eq; exact SzC.eq; (focus ((repeat constructor); done)); omega; omega)))
          | refine WC.seq ?_ | refine WC.region ?_ | refine WL.nil ?_ | refine WE.next ?_ | refine WC.block ?_ | refine WC.skip ?_ | refine WC.condT rfl ?_
        try refine WL.wanted rfl rfl rfl ?_
        (apply WL.q; exact rfl; exact rfl; exact rfl; (apply EvW.ldElemOwn (xs := D.1) (z := (default : Tel)) (f := telC); exact rfl; exact AggC.eq; exact SzC.eq; exact rfl; exact fun _ => rfl; (focus ((repeat constructor); done)); omega))
        try refine WL.wanted rfl rfl rfl ?_
        (apply WL.alloc; exact rfl; exact ZvC.eq; exact rfl; intro tb)
        rw [show ((j2 : Nat) : Int).toNat = j2 from rfl]
        have hnx := addC_next cm D.1 j2 hj2
        obtain ⟨x, hx⟩ : ∃ x, D.1.getD j2 default = x := ⟨_, rfl⟩
        rw [hx, ← hgc] at hnx
        have hkx : KeyOk Try.prog 34 telV x := hkD x (by rw [← hx, List.getD_eq_getElem?_getD, List.getElem?_eq_getElem hj2]; exact List.getElem_mem hj2)
        have htx := (hK2.told x).2
        have hcx := (hKe.told x).1
        have hgx := hK2.gs x
        have hin2 := hK2.ins
        have ht1 : cnt x (D.1.take j2) ≤ cnt x D.1 := sumW_take _ _ _
        have ht2 : cnt x (D.1.take (j2 + 1)) ≤ cnt x D.1 := sumW_take _ _ _
        have ht3 : addC cm D.1 x = cm x + (cnt x D.1 : Int) := rfl
        have hgcx : 0 ≤ gc x ∧ gc x ≤ 8388608 := by
          rw [hgc]
          show 0 ≤ cm x + (cnt x (D.1.take j2) : Int) ∧ cm x + (cnt x (D.1.take j2) : Int) ≤ 8388608
          exact ⟨by omega, by omega⟩
        have hle : addC cm (D.1.take (j2 + 1)) x ≤ 2 * addC gw o.ls x := by
          show cm x + (cnt x (D.1.take (j2 + 1)) : Int) ≤ _
          omega
        have hlo : 0 ≤ addC gw o.ls x ∧ addC gw o.ls x ≤ 8388608 := ⟨by omega, by omega⟩
        rw [hx]
        repeat first
          | refine WC.seq ?_ | refine WL.nil ?_ | refine WE.next ?_ | (apply WL.store; exact rfl; exact rfl; (first | assumption | exact rfl); exact SzC.eq; (first | assumption | exact rfl); (focus ((repeat constructor); done)))
        refine WC.stamp (b := cb) (g := gc) x (by repeat constructor) fun st => ?_
        refine WC.keep (xs := [HP.cmap Try.prog 34 telV cb (gc) (CAt telV x st), .blk tb #[i64 x.1, str x.2] 34, wiresH wb ys, HP.cmap Try.prog 34 telV gb (addC gw o.ls) CAny, .imap mo mm, .own 34 2 (x2) (D.1).length ((D.1).flatMap telC), .blk ob #[.bool false, i64 o.p, i64 o.m, o.v] 30]) (by repeat constructor) ?_
        repeat refine WC.seq ?_
        apply WC.drawE ([[HP.cmap Try.prog 34 telV cb (gc) (CAt telV x st), .blk tb #[i64 x.1, str x.2] 34, wiresH wb ys, HP.cmap Try.prog 34 telV gb (addC gw o.ls) CAny, .imap mo mm, .own 34 2 (x2) (D.1).length ((D.1).flatMap telC), .blk ob #[.bool false, i64 o.p, i64 o.m, o.v] 30], [HP.cmap Try.prog 34 telV cb (gc) (CIn telV x st), .blk tb #[i64 x.1, str x.2] 34, wiresH wb ys, HP.cmap Try.prog 34 telV gb (addC gw o.ls) CAny, .imap mo mm, .own 34 2 (x2) (D.1).length ((D.1).flatMap telC), .blk ob #[.bool false, i64 o.p, i64 o.m, o.v] 30], [HP.cmap Try.prog 34 telV cb (cset gc x (gc x + 1)) CAny, .blk tb #[i64 x.1, str x.2] 34, wiresH wb ys, HP.cmap Try.prog 34 telV gb (addC gw o.ls) CAny, .imap mo mm, .own 34 2 (x2) (D.1).length ((D.1).flatMap telC), .blk ob #[.bool false, i64 o.p, i64 o.m, o.v] 30]]) ([4, 6]) Try.mixed
        · (focus ((repeat (first | exact Restr.nil | (apply Restr.keep; exact rfl; exact rfl) | (apply Restr.drop; exact rfl))); done))
        · exact rfl
        · exact rfl
        · decide +kernel
        · decide +kernel
        · decide +kernel
        · decide +kernel
        · repeat first
              | exact Draws.nil
              | (apply Draws.skip; exact rfl; exact rfl)
              | (apply Draws.at 0; exact rfl; decide +kernel
                 (first | (apply EvW.move; exact rfl) | (apply EvW.loadAgg; exact rfl; exact AggC.eq; exact SzC.eq; (focus ((repeat constructor); done)); (focus ((repeat (first | exact SubL.nil | apply SubL.cons | apply SubL.succ)); done)))))
              | (apply Draws.at 1; exact rfl; decide +kernel
                 fail)
              | (apply Draws.two 0; exact rfl; decide +kernel
                 fail
                 fail)
              | (apply Draws.at 2; exact rfl; decide +kernel
                 fail)
              | (apply Draws.two 1; exact rfl; decide +kernel
                 fail
                 fail)
          (apply Draws.two 0; exact rfl; decide +kernel; (apply EvW.lookupC (a := x) tel_law; exact rfl; exact rfl; exact hkx; exact UndC.eq; exact ZvC.eq; (focus ((repeat constructor); done))); (apply EvW.lookupC (a := x) tel_law; exact rfl; exact rfl; exact hkx; exact UndC.eq; exact ZvC.eq; (focus ((repeat constructor); done))))
          repeat first
              | exact Draws.nil
              | (apply Draws.skip; exact rfl; exact rfl)
              | (apply Draws.at 0; exact rfl; decide +kernel
                 fail)
              | (apply Draws.at 1; exact rfl; decide +kernel
                 fail)
              | (apply Draws.two 0; exact rfl; decide +kernel
                 (first | (apply EvW.arN; exact rfl; exact rfl; exact rfl; refine i64_in ?_ ?_ <;> omega))
                 (first | (apply EvW.arN; exact rfl; exact rfl; exact rfl; refine i64_in ?_ ?_ <;> omega)))
              | (apply Draws.at 2; exact rfl; decide +kernel
                 fail)
              | (apply Draws.two 1; exact rfl; decide +kernel
                 fail
                 fail)
          apply Draws.eff _ (0) rfl rfl
          · (apply EffW.mapEntryC (a := x) (st := st) tel_law; exact rfl; exact rfl; exact hkx; exact UndC.eq; exact ZvC.eq; exact .head)
          repeat first
              | exact Draws.nil
              | (apply Draws.skip; exact rfl; exact rfl)
              | (apply Draws.at 0; exact rfl; decide +kernel
                 fail)
              | (apply Draws.at 1; exact rfl; decide +kernel
                 (first | (apply EvW.extract; exact rfl; exact rfl)))
              | (apply Draws.two 0; exact rfl; decide +kernel
                 fail
                 fail)
              | (apply Draws.at 2; exact rfl; decide +kernel
                 fail)
              | (apply Draws.two 1; exact rfl; decide +kernel
                 fail
                 fail)
          apply Draws.eff _ (1) rfl rfl
          · (apply EffW.entryStoreC (a := x) (st := st) (v := gc x + 1) tel_law; exact rfl; exact rfl; exact rfl; exact .head)
          repeat first
              | exact Draws.nil
              | (apply Draws.skip; exact rfl; exact rfl)
              | (apply Draws.at 0; exact rfl; decide +kernel
                 fail)
              | (apply Draws.at 1; exact rfl; decide +kernel
                 fail)
              | (apply Draws.two 0; exact rfl; decide +kernel
                 fail
                 fail)
              | (apply Draws.at 2; exact rfl; decide +kernel
                 fail)
              | (apply Draws.two 1; exact rfl; decide +kernel
                 fail
                 fail)
        apply WE.writ
        · (focus ((repeat (first | exact Writ.nil | apply Writ.some | apply Writ.none)); done))
        refine WE.conv (A' := [HP.cmap Try.prog 34 telV cb (addC cm (D.1.take (j2 + 1))) CAny, .blk tb #[i64 x.1, str x.2] 34, wiresH wb ys, HP.cmap Try.prog 34 telV gb (addC gw o.ls) CAny, .imap mo mm, .own 34 2 (x2) (D.1).length ((D.1).flatMap telC), .blk ob #[.bool false, i64 o.p, i64 o.m, o.v] 30]) (fun _ h => by rw [← hnx]; exact h) ?_
        repeat first
          | (apply WL.q; exact rfl; exact rfl; exact rfl; (first | (apply EvW.move; exact rfl) | (apply EvW.assign; exact rfl) | (apply EvW.arN; exact rfl; exact rfl; exact rfl; refine i64_in ?_ ?_ <;> omega)))
          | refine WC.seq ?_ | refine WC.region ?_ | refine WL.nil ?_ | refine WE.next ?_
        repeat refine WC.seq ?_
        apply WC.drawE ([[HP.cmap Try.prog 34 telV cb (addC cm (D.1.take (j2 + 1))) CAny, .blk tb #[i64 x.1, str x.2] 34, wiresH wb ys, HP.cmap Try.prog 34 telV gb (addC gw o.ls) CAny, .imap mo mm, .own 34 2 (x2) (D.1).length ((D.1).flatMap telC), .blk ob #[.bool false, i64 o.p, i64 o.m, o.v] 30]]) ([]) Try.mixed
        · (focus ((repeat (first | exact Restr.nil | (apply Restr.keep; exact rfl; exact rfl) | (apply Restr.drop; exact rfl))); done))
        · exact rfl
        · exact rfl
        · decide +kernel
        · decide +kernel
        · decide +kernel
        · decide +kernel
        · repeat first
              | exact Draws.nil
              | (apply Draws.skip; exact rfl; exact rfl)
              | (apply Draws.at 0; exact rfl; decide +kernel
                 (first | (apply EvW.move; exact rfl) | (apply EvW.loadAgg; exact rfl; exact AggC.eq; exact SzC.eq; (focus ((repeat constructor); done)); (focus ((repeat (first | exact SubL.nil | apply SubL.cons | apply SubL.succ)); done)))))
              | (apply Draws.at 1; exact rfl; decide +kernel
                 fail)
              | (apply Draws.two 0; exact rfl; decide +kernel
                 fail
                 fail)
              | (apply Draws.at 2; exact rfl; decide +kernel
                 fail)
              | (apply Draws.two 1; exact rfl; decide +kernel
                 fail
                 fail)
          (apply Draws.at 0; exact rfl; decide +kernel; (apply EvW.lookupC (a := x) tel_law; exact rfl; exact rfl; exact hkx; exact UndC.eq; exact ZvC.eq; (focus ((repeat constructor); done))))
          repeat first
              | exact Draws.nil
              | (apply Draws.skip; exact rfl; exact rfl)
              | (apply Draws.at 0; exact rfl; decide +kernel
                 (first | (apply EvW.move; exact rfl) | (apply EvW.loadAgg; exact rfl; exact AggC.eq; exact SzC.eq; (focus ((repeat constructor); done)); (focus ((repeat (first | exact SubL.nil | apply SubL.cons | apply SubL.succ)); done)))))
              | (apply Draws.at 1; exact rfl; decide +kernel
                 fail)
              | (apply Draws.two 0; exact rfl; decide +kernel
                 fail
                 fail)
              | (apply Draws.at 2; exact rfl; decide +kernel
                 fail)
              | (apply Draws.two 1; exact rfl; decide +kernel
                 fail
                 fail)
          (apply Draws.at 0; exact rfl; decide +kernel; (apply EvW.lookupC (b := gb) (a := x) tel_law; exact rfl; exact rfl; exact hkx; exact UndC.eq; exact ZvC.eq; (focus ((repeat constructor); done))))
          repeat first
              | exact Draws.nil
              | (apply Draws.skip; exact rfl; exact rfl)
              | (apply Draws.at 0; exact rfl; decide +kernel
                 (first | (apply EvW.cmpF; exact rfl; exact rfl; exact rfl; omega) | (apply EvW.arN; exact rfl; exact rfl; exact rfl; refine i64_in ?_ ?_ <;> omega)))
              | (apply Draws.at 1; exact rfl; decide +kernel
                 fail)
              | (apply Draws.two 0; exact rfl; decide +kernel
                 fail
                 fail)
              | (apply Draws.at 2; exact rfl; decide +kernel
                 fail)
              | (apply Draws.two 1; exact rfl; decide +kernel
                 fail
                 fail)
        apply WE.writ
        · (focus ((repeat (first | exact Writ.nil | apply Writ.some | apply Writ.none)); done))
        repeat first
          | (apply WL.q; exact rfl; exact rfl; exact rfl; (first | (apply EvW.move; exact rfl) | (apply EvW.arN; exact rfl; exact rfl; exact rfl; refine i64_in ?_ ?_ <;> omega)))
          | refine WC.region ?_ | refine WL.nil ?_ | refine WE.next ?_ | refine WC.skip ?_ | refine WE.out ?_ | refine WC.condF rfl ?_
        exact WE.again (s := (j2, b1, gc)) ((j2 + 1, b1 + 1, addC cm (D.1.take (j2 + 1)))) ⟨by simp only []; omega, by simp only []; omega, rfl⟩ (by (focus ((repeat (first | exact trivial | (refine ⟨rfl, ?_⟩))); done))) (fun _ h => (by (try simp only []); exact h.keep (by repeat constructor))) (by (try simp only []); omega)
      have hj2l : j2 = D.1.length := by omega
      rw [hj2l, addC_full _ _ _ (Nat.le_refl _)] at hgc
      have hsum2 := hK2.sums
      have hins2 := hK2.ins
      have hls2 := hK2.losts
      have htws2 := hK2.twices
      have houts2 := hK2.outs
      rw [hgc]
      repeat first
        | (apply WL.q; exact rfl; exact rfl; exact rfl; (first | (apply EvW.move; exact rfl) | (apply EvW.cmpF; exact rfl; exact rfl; exact rfl; omega)))
        | refine WC.seq ?_ | refine WC.region ?_ | refine WL.nil ?_ | refine WE.next ?_ | refine WC.exit ?_ | refine WE.pass ?_ | refine WE.hit ?_ | refine WC.condF rfl ?_
      try refine WL.wanted rfl rfl rfl ?_
      apply WL.callA ([])
      · exact rfl
      · exact rfl
      · exact fun w => Try.call17 _ w
      · (focus ((repeat constructor); done))
      · exact fun w1 S1 hS1 hs1 ho1 => under_spec wb ys w1 S1 hS1 (ho1 (wiresH wb ys) _ (by repeat constructor)) hI2.nodup hu3
      rintro _ _ ⟨rfl, rfl⟩
      first | refine WL.app4 ?_ | refine WL.app3 ?_ | refine WL.app2 ?_ | refine WL.app1 ?_ | refine WL.app0 ?_ | skip
      repeat first
        | (apply WL.q; exact rfl; exact rfl; exact rfl; (first | (apply EvW.move; exact rfl) | (apply EvW.cmpF; exact rfl; exact rfl; exact rfl; omega) | (apply EvW.arN; exact rfl; exact rfl; exact rfl; refine i64_in ?_ ?_ <;> omega)))
        | refine WC.region ?_ | refine WL.nil ?_ | refine WE.next ?_ | refine WC.skip ?_ | refine WE.out ?_ | refine WC.condF rfl ?_
      have e1 : a1 = a + o.ls.length := by omega
      have e2 : b1 = b + D.1.length := by omega
      rw [e1, e2, hl1, htw1]
      exact WE.again (s := (i, xs, md, due, held, gw, cm, a, b, l, tw, mm)) ((i + 1, ys, md, D.2.1, D.2.2, addC gw o.ls, addC cm D.1, a + o.ls.length, b + D.1.length, l + sumW (isM md 1) o.ls, tw + sumW (isM md 3) o.ls, mm)) ⟨by simp only []; omega, hI2, hR2, hmo, hK2⟩ (by (focus ((repeat (first | exact trivial | (refine ⟨rfl, ?_⟩))); done))) (fun _ h => (by (try simp only []); exact h.keep (by repeat constructor))) (by (try simp only []); omega)
  repeat first
    | (apply WL.q; exact rfl; exact rfl; exact rfl; (first | (apply EvW.assign; exact rfl) | (apply EvW.cmpF; exact rfl; exact rfl; exact rfl; omega)))
    | refine WC.seq ?_ | refine WC.region ?_ | refine WL.nil ?_ | refine WE.next ?_ | refine WC.exit ?_ | refine WE.pass ?_ | refine WE.hit ?_ | refine WC.condF rfl ?_ | refine WC.ret ?_
  refine WE.keep (xs := []) (by repeat constructor) ?_
  refine WE.ret1 rfl rfl ?_
  rfl
end Go.Proofs.Ytoaajdmacngnjaa
namespace Go.Proofs.Ytoaajdmacngnjaa
open Go.ChangeShapes Go.WideShapes Go.ChangeAt Go.RowKit Go.BK
set_option maxRecDepth 100000 in
theorem wiresKeep_lifted (os : Os) (started : os.Started) (H : Type) (enc : TypeId × Value → H) (F : Stop.Interp) :
    ReturnsInHanded {} Try.checked os 4 .any ((Rows.OpenSpec.upto Rows.wiresKeepSpec).pre6 enc Try.prog Try.f4 Rows.wiresKeepUptoRow.domain false) (((Rows.OpenSpec.upto Rows.wiresKeepSpec).at F).post enc Try.prog Try.f4 false true false false) := by
  refine law_liftedU (C := Try.checked) (s := Rows.wiresKeepSpec) (tb := 4) Try.own started (by kernel_rfl) Try.func4 rfl Try.underlying4 rfl Try.laidOut (by kernel_rfl) (by intro ds h; match ds, h with | [d0], _ => rfl)
    (OpenSpec.witness (enc := enc) (C := Try.checked) (s := Rows.OpenSpec.upto Rows.wiresKeepSpec) (k := Rows.uptoSmall) rfl false ⟨#[], #[.slice none 0 0], []⟩ 8 (by kernel_rfl) (by kernel_rfl) (by kernel_rfl)
      (x := ([.nil], [], [])) (by kernel_rfl) rfl (by kernel_rfl)) ?_
  intro W base args ds p hval hA0 hk
  have hA : DataW.TrodAll enc Try.prog W 0 (fun _ => true) true Try.f4.params.toList args.toList ds p := hA0
  rw [Try.params4] at hA hval
  clear hA0
  obtain ⟨v0, d0, rfl, rfl, h0⟩ := trodAll_one hA
  obtain ⟨os, hx, hq, hb⟩ := argU_slice (sz := 4) Try.underlying22 (by kernel_rfl) (by decide) (fun _ => rfl) opensU_opw (hval 0 22 v0 rfl rfl) h0
  simp only [Rows.uptoBulkAll, Rows.uptoBulk] at hk
  obtain ⟨h3, h4⟩ := ops_small (os := os) (B := 1048576) (by omega)
  exact (wiresKeep_law v0 os W _ (fun _ h => h) hx (ops_good hq h4) h3).law (fun _ _ h => h)
theorem wiresKeep_holds : Rows.WiresKeepUptoSaid :=
  OpenClaim.holds_of_cond 4 Try.f4 rfl rfl rfl rfl rfl rfl rfl ⟨rfl, rfl, rfl, rfl, rfl⟩ rfl rfl rfl rfl rfl (by kernel_rfl) Try.func4 (by kernel_rfl)
    (of_decide_eq_true (by kernel_rfl)) (by unfold Func.isWrapper; first | (rw [if_pos (by decide +kernel)]; kernel_rfl) | (rw [if_neg (by decide +kernel)]; exact ⟨rfl, rfl⟩))
    (fun os started H enc _ F => wiresKeep_lifted os started H enc F)
end Go.Proofs.Ytoaajdmacngnjaa
