/- Own lemmas: the texts WiresI, WiresJ, LibAE, WiresN, LibU, PackO, WiresQ, WiresO, WiresR, WiresS. -/
import Derived.JoinedCond
import Derived.OpenShut
import Derived.Test.YtoaajdmacngnjaaRows
import Derived.Test.YtoaajdmacngnjaaWiresPeM2
namespace Go.Proofs.Ytoaajdmacngnjaa
open Go.RowKit Go.BK
structure Okx (xs : List Wr) : Prop where
  nodup : (xs.map (·.p)).Nodup
  wf : ∀ q ∈ xs, (Lit.int .i64 q.p).wf = true
  len : xs.length ≤ 1099511627776
theorem kv_keys {zs : Zs} {xs : List Wr} (hz : zs.map (·.1) = xs) : (zs.map kv).map (·.1) = xs.map (·.p) := by
  subst hz; rw [List.map_map, List.map_map]; rfl
theorem outR_step (xs : List Wr) (K : List Int) (i : Nat) (h : i < K.length) : outR xs (K.take (i + 1)) = outR xs (K.take i) ++ telsOf (K.getD i 0) (readyO (getW xs (K.getD i 0))) := by
  have e : K.take (i + 1) = K.take i ++ [K.getD i 0] := by
    rw [List.take_add_one, List.getD_eq_getElem?_getD, List.getElem?_eq_getElem h]; rfl
  rw [e]
  unfold outR
  rw [List.flatMap_append, List.flatMap_singleton]
theorem take_step (K : List Int) (i : Nat) (h : i < K.length) : K.take (i + 1) = K.take i ++ [K.getD i 0] := by
  rw [List.take_add_one, List.getD_eq_getElem?_getD, List.getElem?_eq_getElem h]; rfl
theorem not_taken {K : List Int} (hd : K.Nodup) (i : Nat) (h : i < K.length) : K.getD i 0 ∉ K.take i := by
  have h1 : (K.take (i + 1)).Nodup := hd.sublist (List.take_sublist _ _)
  rw [take_step K i h] at h1
  intro hm
  exact (List.nodup_append.1 h1).2.2 _ hm _ (by simp) rfl
theorem outR_room (xs : List Wr) (hd : (xs.map (·.p)).Nodup) {K : List Int} (hp : K.Perm (xs.map (·.p))) (i : Nat) (h : i < K.length) : (outR xs (K.take i)).length + (readyO (getW xs (K.getD i 0))).length ≤ underF xs := by
  have h1 := outR_sum xs (K.take i)
  have h2 := take_sum (fun p => wSize (getW xs p)) K (i + 1)
  rw [keys_sum xs hd hp, take_step K i h, List.map_append, List.sum_append] at h2
  have h3 := readyO_le (getW xs (K.getD i 0))
  simp only [List.map_cons, List.map_nil, List.sum_cons, List.sum_nil] at h2
  omega
set_option maxHeartbeats 4000000 in
set_option maxRecDepth 8000 in
theorem pass_spec (wb : Nat) (xs : List Wr) (v : Value) (l : List Tel) (w : World) (S : BSet) (hS : (sepL [wiresH wb xs]).sat S w) (hv : Sees w S (.row 2 v l.length (l.flatMap telC))) (hk : Okx xs) (hu : underF xs + l.length ≤ 2147483648) (ht : ∀ t ∈ l, t.2.length ≤ 140737488355328) :
    Tri Try.prog 14 #[ptr wb 0, v] w S fun u A => A = [.own 34 2 (u) ((passF xs l).2).length (((passF xs l).2).flatMap telC), wiresH wb (passF xs l).1] := by
  refine Tri.enter (l := [ptr wb 0, v]) Try.func14 rfl Try.ntmps14 rfl [(0, ptr wb 0), (1, v)] (subA rfl) hS ?_
  refine WC.openW .head fun mb zs hz => ?_
  obtain ⟨K, hK⟩ : ∃ K, sortI (xs.map (·.p)) = K := ⟨_, rfl⟩
  have hKp : K.Perm (xs.map (·.p)) := by rw [← hK]; exact sortI_perm _
  have hKd : K.Nodup := hKp.nodup_iff.2 hk.nodup
  have hkl : K.length = xs.length := by rw [hKp.length_eq, List.length_map]
  have hzl : zs.length = xs.length := by rw [← hz, List.length_map]
  have hklen := hk.len
  have hwf : ∀ p ∈ zs.map kv, (Lit.int .i64 p.1).wf = true := fun p hp => by
    have h1 : p.1 ∈ (zs.map kv).map (·.1) := List.mem_map.2 ⟨p, hp, rfl⟩
    rw [kv_keys hz] at h1
    obtain ⟨q, hq, e⟩ := List.mem_map.1 h1
    rw [← e]; exact hk.wf q hq
  repeat first
    | (apply WL.q; exact rfl; exact rfl; exact rfl; (first | (apply EvW.move; exact rfl) | (apply EvW.assign; exact rfl) | (apply EvW.nilPtr; exact rfl) | (apply EvW.fieldAddr0; exact rfl; exact FldC.eq) | (apply EvW.fieldAddr; exact rfl; exact FldC.eq) | (apply EvW.load; exact rfl; exact ScalC.eq; (focus ((repeat constructor); done)); exact rfl) | (apply EvW.ldSeen; exact rfl; exact ScalC.eq; assumption; (first | exact rfl | assumption)) | (apply EvW.ldFld; exact rfl; exact ScalC.eq; assumption; exact fun _ => rfl; omega; exact rfl; exact inferInstance) | (apply EvW.lenL; exact rfl; exact UndC.eq) | (apply EvW.cmpT; exact rfl; exact rfl; exact rfl; omega) | (apply EvW.cmpF; exact rfl; exact rfl; exact rfl; omega) | (apply EvW.cmp; exact rfl; exact rfl; exact rfl) | (apply EvW.arN; exact rfl; exact rfl; exact rfl; refine i64_in ?_ ?_ <;> omega) | (apply EvW.ar; exact rfl; exact rfl; exact rfl) | (apply EvW.loadAgg; exact rfl; exact AggC.eq; exact SzC.eq; (focus ((repeat constructor); done)); (focus ((repeat (first | exact SubL.nil | apply SubL.cons | apply SubL.succ)); done))) | (apply EvW.makeFunc; exact rfl) | (apply EvW.ldStr; exact rfl; exact ScalC.eq; assumption; omega) | (apply EvW.ldStrOwn; exact rfl; exact ScalC.eq; (focus ((repeat constructor); done)); omega) | (apply EvW.lenRow; exact rfl; exact UndC.eq; assumption) | (apply EvW.lenOwn; exact rfl; exact UndC.eq; (focus ((repeat constructor); done))) | (apply EvW.idxRow; exact rfl; exact rfl; exact UndC.eq; exact SzC.eq; assumption; omega; omega) | (apply EvW.idxOwn; exact rfl; exact rfl; exact UndC.eq; exact SzC.eq; (focus ((repeat constructor); done)); omega; omega) | (apply EvW.ldInt; exact rfl; exact ScalC.eq; assumption; omega) | (apply EvW.ldIntOwn; exact rfl; exact ScalC.eq; (focus ((repeat constructor); done)); omega) | (apply EvW.fldRow; exact rfl; exact FldC.eq; assumption; omega) | (apply EvW.fldOwn; exact rfl; exact FldC.eq; (focus ((repeat constructor); done)); omega) | (apply EvW.nilElemOwn; exact rfl; (focus ((repeat constructor); done)); omega) | (apply EvW.nilElemRow; exact rfl; assumption; omega) | (apply EvW.ldFldOwn; exact rfl; exact ScalC.eq; (focus ((repeat constructor); done)); exact fun _ => rfl; omega; exact rfl; exact inferInstance) | (apply EvW.lookup; exact rfl; exact rfl; exact UndC.eq; exact UndC.eq; exact ZvC.eq; (focus ((repeat constructor); done))) | (apply EvW.lookupOk; exact rfl; exact rfl; exact UndC.eq; exact UndC.eq; exact ZvC.eq; (focus ((repeat constructor); done))) | (apply EvW.lookupT; exact rfl; exact rfl; exact UndC.eq; exact UndC.eq; exact ZvC.eq; (focus ((repeat constructor); done)))))
    | refine WC.seq ?_ | refine WC.region ?_ | refine WL.nil ?_ | refine WE.next ?_ | refine WC.block ?_ | refine WC.skip ?_ | refine WC.exit ?_ | refine WE.pass ?_ | refine WE.hit ?_ | refine WE.miss rfl ?_ | refine WE.out ?_ | refine WC.condT rfl ?_ | refine WC.condF rfl ?_ | refine WC.ret ?_ | refine WE.passRet ?_ | refine WE.outRet ?_ | refine WL.wanted rfl rfl rfl ?_ | (apply WL.store; exact rfl; exact rfl; (first | assumption | exact rfl); exact SzC.eq; (first | assumption | exact rfl); (focus ((repeat constructor); done)))
  try refine WL.wanted rfl rfl rfl ?_
  (apply WL.alloc; exact rfl; exact ZvC.eq; exact rfl; intro ob)
  repeat first
    | (apply WL.q; exact rfl; exact rfl; exact rfl; (first | (apply EvW.move; exact rfl) | (apply EvW.assign; exact rfl) | (apply EvW.nilPtr; exact rfl) | (apply EvW.fieldAddr0; exact rfl; exact FldC.eq) | (apply EvW.fieldAddr; exact rfl; exact FldC.eq) | (apply EvW.load; exact rfl; exact ScalC.eq; (focus ((repeat constructor); done)); exact rfl) | (apply EvW.ldSeen; exact rfl; exact ScalC.eq; assumption; (first | exact rfl | assumption)) | (apply EvW.ldFld; exact rfl; exact ScalC.eq; assumption; exact fun _ => rfl; omega; exact rfl; exact inferInstance) | (apply EvW.lenL; exact rfl; exact UndC.eq) | (apply EvW.cmpT; exact rfl; exact rfl; exact rfl; omega) | (apply EvW.cmpF; exact rfl; exact rfl; exact rfl; omega) | (apply EvW.cmp; exact rfl; exact rfl; exact rfl) | (apply EvW.arN; exact rfl; exact rfl; exact rfl; refine i64_in ?_ ?_ <;> omega) | (apply EvW.ar; exact rfl; exact rfl; exact rfl) | (apply EvW.loadAgg; exact rfl; exact AggC.eq; exact SzC.eq; (focus ((repeat constructor); done)); (focus ((repeat (first | exact SubL.nil | apply SubL.cons | apply SubL.succ)); done))) | (apply EvW.makeFunc; exact rfl) | (apply EvW.ldStr; exact rfl; exact ScalC.eq; assumption; omega) | (apply EvW.ldStrOwn; exact rfl; exact ScalC.eq; (focus ((repeat constructor); done)); omega) | (apply EvW.lenRow; exact rfl; exact UndC.eq; assumption) | (apply EvW.lenOwn; exact rfl; exact UndC.eq; (focus ((repeat constructor); done))) | (apply EvW.idxRow; exact rfl; exact rfl; exact UndC.eq; exact SzC.eq; assumption; omega; omega) | (apply EvW.idxOwn; exact rfl; exact rfl; exact UndC.eq; exact SzC.eq; (focus ((repeat constructor); done)); omega; omega) | (apply EvW.ldInt; exact rfl; exact ScalC.eq; assumption; omega) | (apply EvW.ldIntOwn; exact rfl; exact ScalC.eq; (focus ((repeat constructor); done)); omega) | (apply EvW.fldRow; exact rfl; exact FldC.eq; assumption; omega) | (apply EvW.fldOwn; exact rfl; exact FldC.eq; (focus ((repeat constructor); done)); omega) | (apply EvW.nilElemOwn; exact rfl; (focus ((repeat constructor); done)); omega) | (apply EvW.nilElemRow; exact rfl; assumption; omega) | (apply EvW.ldFldOwn; exact rfl; exact ScalC.eq; (focus ((repeat constructor); done)); exact fun _ => rfl; omega; exact rfl; exact inferInstance) | (apply EvW.lookup; exact rfl; exact rfl; exact UndC.eq; exact UndC.eq; exact ZvC.eq; (focus ((repeat constructor); done))) | (apply EvW.lookupOk; exact rfl; exact rfl; exact UndC.eq; exact UndC.eq; exact ZvC.eq; (focus ((repeat constructor); done))) | (apply EvW.lookupT; exact rfl; exact rfl; exact UndC.eq; exact UndC.eq; exact ZvC.eq; (focus ((repeat constructor); done)))))
    | refine WC.seq ?_ | refine WC.region ?_ | refine WL.nil ?_ | refine WE.next ?_ | refine WC.block ?_ | refine WC.skip ?_ | refine WC.exit ?_ | refine WE.pass ?_ | refine WE.hit ?_ | refine WE.miss rfl ?_ | refine WE.out ?_ | refine WC.condT rfl ?_ | refine WC.condF rfl ?_ | refine WC.ret ?_ | refine WE.passRet ?_ | refine WE.outRet ?_ | refine WL.wanted rfl rfl rfl ?_ | (apply WL.store; exact rfl; exact rfl; (first | assumption | exact rfl); exact SzC.eq; (first | assumption | exact rfl); (focus ((repeat constructor); done)))
  try refine WL.wanted rfl rfl rfl ?_
  apply WL.callA ([])
  · exact rfl
  · exact rfl
  · exact fun w => Try.call22 _ w
  · (focus ((repeat constructor); done))
  · exact fun w1 S1 hS1 hs1 ho1 => maps_keys mb w1 S1
  rintro _ _ ⟨lb, rfl, rfl⟩
  first | refine WL.app4 ?_ | refine WL.app3 ?_ | refine WL.app2 ?_ | refine WL.app1 ?_ | refine WL.app0 ?_ | skip
  repeat first
    | (apply WL.q; exact rfl; exact rfl; exact rfl; (first | (apply EvW.move; exact rfl) | (apply EvW.assign; exact rfl) | (apply EvW.nilPtr; exact rfl) | (apply EvW.fieldAddr0; exact rfl; exact FldC.eq) | (apply EvW.fieldAddr; exact rfl; exact FldC.eq) | (apply EvW.load; exact rfl; exact ScalC.eq; (focus ((repeat constructor); done)); exact rfl) | (apply EvW.ldSeen; exact rfl; exact ScalC.eq; assumption; (first | exact rfl | assumption)) | (apply EvW.ldFld; exact rfl; exact ScalC.eq; assumption; exact fun _ => rfl; omega; exact rfl; exact inferInstance) | (apply EvW.lenL; exact rfl; exact UndC.eq) | (apply EvW.cmpT; exact rfl; exact rfl; exact rfl; omega) | (apply EvW.cmpF; exact rfl; exact rfl; exact rfl; omega) | (apply EvW.cmp; exact rfl; exact rfl; exact rfl) | (apply EvW.arN; exact rfl; exact rfl; exact rfl; refine i64_in ?_ ?_ <;> omega) | (apply EvW.ar; exact rfl; exact rfl; exact rfl) | (apply EvW.loadAgg; exact rfl; exact AggC.eq; exact SzC.eq; (focus ((repeat constructor); done)); (focus ((repeat (first | exact SubL.nil | apply SubL.cons | apply SubL.succ)); done))) | (apply EvW.makeFunc; exact rfl) | (apply EvW.ldStr; exact rfl; exact ScalC.eq; assumption; omega) | (apply EvW.ldStrOwn; exact rfl; exact ScalC.eq; (focus ((repeat constructor); done)); omega) | (apply EvW.lenRow; exact rfl; exact UndC.eq; assumption) | (apply EvW.lenOwn; exact rfl; exact UndC.eq; (focus ((repeat constructor); done))) | (apply EvW.idxRow; exact rfl; exact rfl; exact UndC.eq; exact SzC.eq; assumption; omega; omega) | (apply EvW.idxOwn; exact rfl; exact rfl; exact UndC.eq; exact SzC.eq; (focus ((repeat constructor); done)); omega; omega) | (apply EvW.ldInt; exact rfl; exact ScalC.eq; assumption; omega) | (apply EvW.ldIntOwn; exact rfl; exact ScalC.eq; (focus ((repeat constructor); done)); omega) | (apply EvW.fldRow; exact rfl; exact FldC.eq; assumption; omega) | (apply EvW.fldOwn; exact rfl; exact FldC.eq; (focus ((repeat constructor); done)); omega) | (apply EvW.nilElemOwn; exact rfl; (focus ((repeat constructor); done)); omega) | (apply EvW.nilElemRow; exact rfl; assumption; omega) | (apply EvW.ldFldOwn; exact rfl; exact ScalC.eq; (focus ((repeat constructor); done)); exact fun _ => rfl; omega; exact rfl; exact inferInstance) | (apply EvW.lookup; exact rfl; exact rfl; exact UndC.eq; exact UndC.eq; exact ZvC.eq; (focus ((repeat constructor); done))) | (apply EvW.lookupOk; exact rfl; exact rfl; exact UndC.eq; exact UndC.eq; exact ZvC.eq; (focus ((repeat constructor); done))) | (apply EvW.lookupT; exact rfl; exact rfl; exact UndC.eq; exact UndC.eq; exact ZvC.eq; (focus ((repeat constructor); done)))))
    | refine WC.seq ?_ | refine WC.region ?_ | refine WL.nil ?_ | refine WE.next ?_ | refine WC.block ?_ | refine WC.skip ?_ | refine WC.exit ?_ | refine WE.pass ?_ | refine WE.hit ?_ | refine WE.miss rfl ?_ | refine WE.out ?_ | refine WC.condT rfl ?_ | refine WC.condF rfl ?_ | refine WC.ret ?_ | refine WE.passRet ?_ | refine WE.outRet ?_ | refine WL.wanted rfl rfl rfl ?_ | (apply WL.store; exact rfl; exact rfl; (first | assumption | exact rfl); exact SzC.eq; (first | assumption | exact rfl); (focus ((repeat constructor); done)))
  try refine WL.wanted rfl rfl rfl ?_
  apply WL.callA ([])
  · exact rfl
  · exact rfl
  · exact fun w => Try.call21 _ w
  · (focus ((repeat constructor); done))
  · exact fun w1 S1 hS1 hs1 ho1 => slices_sorted lb mb (zs.map kv) w1 S1 (ho1 (.blk lb [.map (some mb)].toArray 48) _ (by repeat constructor)) (ho1 (.tmap mb ((zs).map kv)) _ (by repeat constructor)) hwf (by rw [List.length_map]; omega)
  rintro _ _ rfl
  first | refine WL.app4 ?_ | refine WL.app3 ?_ | refine WL.app2 ?_ | refine WL.app1 ?_ | refine WL.app0 ?_ | skip
  rename_i ks
  rw [kv_keys hz, hK]
  refine WL.conv (fun _ hs => St.shutOut (v := (.slice none 0 0)) (o := []) (by repeat constructor) (hs.ownNil (e := 34) (sz := 2))) ?_
  refine WL.keep (xs := [.blk wb #[.map (some mb)] 50, .tmap mb ((zs).map kv), sepL (((zsR zs (K.take 0))).map wz), .own 3 1 ks K.length (K.map i64), outH ob (outR xs (K.take 0))]) (by rw [List.take_zero, zsR_nil, show outR xs [] = [] from rfl]; (focus ((repeat constructor); done))) ?_
  repeat first
    | (apply WL.q; exact rfl; exact rfl; exact rfl; (first | (apply EvW.move; exact rfl) | (apply EvW.assign; exact rfl) | (apply EvW.nilPtr; exact rfl) | (apply EvW.fieldAddr0; exact rfl; exact FldC.eq) | (apply EvW.fieldAddr; exact rfl; exact FldC.eq) | (apply EvW.load; exact rfl; exact ScalC.eq; (focus ((repeat constructor); done)); exact rfl) | (apply EvW.ldSeen; exact rfl; exact ScalC.eq; assumption; (first | exact rfl | assumption)) | (apply EvW.ldFld; exact rfl; exact ScalC.eq; assumption; exact fun _ => rfl; omega; exact rfl; exact inferInstance) | (apply EvW.lenL; exact rfl; exact UndC.eq) | (apply EvW.cmpT; exact rfl; exact rfl; exact rfl; omega) | (apply EvW.cmpF; exact rfl; exact rfl; exact rfl; omega) | (apply EvW.cmp; exact rfl; exact rfl; exact rfl) | (apply EvW.arN; exact rfl; exact rfl; exact rfl; refine i64_in ?_ ?_ <;> omega) | (apply EvW.ar; exact rfl; exact rfl; exact rfl) | (apply EvW.loadAgg; exact rfl; exact AggC.eq; exact SzC.eq; (focus ((repeat constructor); done)); (focus ((repeat (first | exact SubL.nil | apply SubL.cons | apply SubL.succ)); done))) | (apply EvW.makeFunc; exact rfl) | (apply EvW.ldStr; exact rfl; exact ScalC.eq; assumption; omega) | (apply EvW.ldStrOwn; exact rfl; exact ScalC.eq; (focus ((repeat constructor); done)); omega) | (apply EvW.lenRow; exact rfl; exact UndC.eq; assumption) | (apply EvW.lenOwn; exact rfl; exact UndC.eq; (focus ((repeat constructor); done))) | (apply EvW.idxRow; exact rfl; exact rfl; exact UndC.eq; exact SzC.eq; assumption; omega; omega) | (apply EvW.idxOwn; exact rfl; exact rfl; exact UndC.eq; exact SzC.eq; (focus ((repeat constructor); done)); omega; omega) | (apply EvW.ldInt; exact rfl; exact ScalC.eq; assumption; omega) | (apply EvW.ldIntOwn; exact rfl; exact ScalC.eq; (focus ((repeat constructor); done)); omega) | (apply EvW.fldRow; exact rfl; exact FldC.eq; assumption; omega) | (apply EvW.fldOwn; exact rfl; exact FldC.eq; (focus ((repeat constructor); done)); omega) | (apply EvW.nilElemOwn; exact rfl; (focus ((repeat constructor); done)); omega) | (apply EvW.nilElemRow; exact rfl; assumption; omega) | (apply EvW.ldFldOwn; exact rfl; exact ScalC.eq; (focus ((repeat constructor); done)); exact fun _ => rfl; omega; exact rfl; exact inferInstance) | (apply EvW.lookup; exact rfl; exact rfl; exact UndC.eq; exact UndC.eq; exact ZvC.eq; (focus ((repeat constructor); done))) | (apply EvW.lookupOk; exact rfl; exact rfl; exact UndC.eq; exact UndC.eq; exact ZvC.eq; (focus ((repeat constructor); done))) | (apply EvW.lookupT; exact rfl; exact rfl; exact UndC.eq; exact UndC.eq; exact ZvC.eq; (focus ((repeat constructor); done)))))
    | refine WC.seq ?_ | refine WC.region ?_ | refine WL.nil ?_ | refine WE.next ?_ | refine WC.block ?_ | refine WC.skip ?_ | refine WC.exit ?_ | refine WE.pass ?_ | refine WE.hit ?_ | refine WE.miss rfl ?_ | refine WE.out ?_ | refine WC.condT rfl ?_ | refine WC.condF rfl ?_ | refine WC.ret ?_ | refine WE.passRet ?_ | refine WE.outRet ?_ | refine WL.wanted rfl rfl rfl ?_ | (apply WL.store; exact rfl; exact rfl; (first | assumption | exact rfl); exact SzC.eq; (first | assumption | exact rfl); (focus ((repeat constructor); done)))
  refine WC.loopK (σ := Nat) [0, 1, 5, 6, 17, 18] (fun s => [(19, i64 s)]) (fun s => [.blk wb #[.map (some mb)] 50, .tmap mb ((zs).map kv), sepL (((zsR zs (K.take s))).map wz), .own 3 1 ks K.length (K.map i64), outH ob (outR xs (K.take s))]) (fun s => s ≤ K.length) (fun s => K.length - s) 0 (by (focus ((repeat (first | exact Pick.nil | (apply Pick.cons; exact rfl))); done))) (by (focus ((repeat (first | exact trivial | (refine ⟨rfl, ?_⟩))); done))) (fun _ h => h.keep (by repeat constructor)) (Nat.zero_le _) (fun s hs => ?_)
  obtain ⟨i, rfl⟩ : ∃ q, q = s := ⟨s, rfl⟩
  simp only [List.cons_append, List.nil_append] at hs ⊢
  by_cases hlt : (i : Int) < K.length
  · have hi : i < K.length := by omega
    obtain ⟨p, hp⟩ : ∃ p, K.getD i 0 = p := ⟨_, rfl⟩
    have hp2 : K.getD ((i : Nat) : Int).toNat 0 = p := hp
    have hpm : p ∈ xs.map (·.p) := by
      rw [← hKp.mem_iff, ← hp, List.getD_eq_getElem?_getD, List.getElem?_eq_getElem hi]; exact List.getElem_mem hi
    have hnt : p ∉ K.take i := by rw [← hp]; exact not_taken hKd i hi
    obtain ⟨hj, hjp⟩ := ixW_mem xs p hpm
    have hjz : ixW xs p < zs.length := by omega
    have hget : mget p (zs.map kv) = some (ptr (zs.getD (ixW xs p) default).2 0) := by rw [mget_kv, hz, if_pos hjz]
    have hq1 : (zs.getD (ixW xs p) default).1 = getW xs p := by
      unfold getW
      rw [← map_getD (·.1) zs _ hjz, hz]
    have hzj : (zsR zs (K.take i)).getD (ixW xs p) default = zs.getD (ixW xs p) default := by
      rw [zsR_at zs _ _ hjz, if_neg (by rw [hq1, hjp]; exact hnt)]
    have hset := zsR_set zs (K.take i) p (by rw [hz]; exact hk.nodup) (by rw [hz]; exact hpm)
    rw [hz, show K.take i ++ [p] = K.take (i + 1) from by rw [take_step K i hi, hp]] at hset
    have hsz : wSize (getW xs p) ≤ underF xs := sum_at xs _
    have hrm := outR_room xs hk.nodup hKp i hi
    have hst := outR_step xs K i hi
    rw [hp] at hrm hst
    have hzl2 := zsR_len zs (K.take i)
    repeat first
      | (apply WL.q; exact rfl; exact rfl; exact rfl; (first | (apply EvW.move; exact rfl) | (apply EvW.assign; exact rfl) | (apply EvW.nilPtr; exact rfl) | (apply EvW.fieldAddr0; exact rfl; exact FldC.eq) | (apply EvW.fieldAddr; exact rfl; exact FldC.eq) | (apply EvW.load; exact rfl; exact ScalC.eq; (focus ((repeat constructor); done)); exact rfl) | (apply EvW.ldSeen; exact rfl; exact ScalC.eq; assumption; (first | exact rfl | assumption)) | (apply EvW.ldFld; exact rfl; exact ScalC.eq; assumption; exact fun _ => rfl; omega; exact rfl; exact inferInstance) | (apply EvW.lenL; exact rfl; exact UndC.eq) | (apply EvW.cmpT; exact rfl; exact rfl; exact rfl; omega) | (apply EvW.cmpF; exact rfl; exact rfl; exact rfl; omega) | (apply EvW.cmp; exact rfl; exact rfl; exact rfl) | (apply EvW.arN; exact rfl; exact rfl; exact rfl; refine i64_in ?_ ?_ <;> omega) | (apply EvW.ar; exact rfl; exact rfl; exact rfl) | (apply EvW.loadAgg; exact rfl; exact AggC.eq; exact SzC.eq; (focus ((repeat constructor); done)); (focus ((repeat (first | exact SubL.nil | apply SubL.cons | apply SubL.succ)); done))) | (apply EvW.makeFunc; exact rfl) | (apply EvW.ldStr; exact rfl; exact ScalC.eq; assumption; omega) | (apply EvW.ldStrOwn; exact rfl; exact ScalC.eq; (focus ((repeat constructor); done)); omega) | (apply EvW.lenRow; exact rfl; exact UndC.eq; assumption) | (apply EvW.lenOwn; exact rfl; exact UndC.eq; (focus ((repeat constructor); done))) | (apply EvW.idxRow; exact rfl; exact rfl; exact UndC.eq; exact SzC.eq; assumption; omega; omega) | (apply EvW.idxOwn; exact rfl; exact rfl; exact UndC.eq; exact SzC.eq; (focus ((repeat constructor); done)); omega; omega) | (apply EvW.ldInt; exact rfl; exact ScalC.eq; assumption; omega) | (apply EvW.ldIntOwn; exact rfl; exact ScalC.eq; (focus ((repeat constructor); done)); omega) | (apply EvW.fldRow; exact rfl; exact FldC.eq; assumption; omega) | (apply EvW.fldOwn; exact rfl; exact FldC.eq; (focus ((repeat constructor); done)); omega) | (apply EvW.nilElemOwn; exact rfl; (focus ((repeat constructor); done)); omega) | (apply EvW.nilElemRow; exact rfl; assumption; omega) | (apply EvW.ldFldOwn; exact rfl; exact ScalC.eq; (focus ((repeat constructor); done)); exact fun _ => rfl; omega; exact rfl; exact inferInstance) | (apply EvW.lookup; exact rfl; exact rfl; exact UndC.eq; exact UndC.eq; exact ZvC.eq; (focus ((repeat constructor); done))) | (apply EvW.lookupOk; exact rfl; exact rfl; exact UndC.eq; exact UndC.eq; exact ZvC.eq; (focus ((repeat constructor); done))) | (apply EvW.lookupT; exact rfl; exact rfl; exact UndC.eq; exact UndC.eq; exact ZvC.eq; (focus ((repeat constructor); done)))))
      | refine WC.seq ?_ | refine WC.region ?_ | refine WL.nil ?_ | refine WE.next ?_ | refine WC.block ?_ | refine WC.skip ?_ | refine WC.exit ?_ | refine WE.pass ?_ | refine WE.hit ?_ | refine WE.miss rfl ?_ | refine WE.out ?_ | refine WC.condT rfl ?_ | refine WC.condF rfl ?_ | refine WC.ret ?_ | refine WE.passRet ?_ | refine WE.outRet ?_ | refine WL.wanted rfl rfl rfl ?_ | (apply WL.store; exact rfl; exact rfl; (first | assumption | exact rfl); exact SzC.eq; (first | assumption | exact rfl); (focus ((repeat constructor); done)))
    rw [hp2, hget]
    dsimp only [Option.getD_some]
    try refine WL.wanted rfl rfl rfl ?_
    apply WL.callA ([sepL (((zsR zs (K.take i))).map wz)])
    · exact rfl
    · exact rfl
    · exact fun w => Try.call23 _ w
    · (focus ((repeat constructor); done))
    · exact fun w1 S1 hS1 hs1 ho1 => (by have h := ready_all (zsR zs (K.take i)) (ixW xs p) w1 S1 hS1 (by omega) (by rw [hzj, hq1]; omega); rw [hzj, hset, hq1] at h; exact h)
    rintro _ _ rfl
    first | refine WL.app4 ?_ | refine WL.app3 ?_ | refine WL.app2 ?_ | refine WL.app1 ?_ | refine WL.app0 ?_ | skip
    rename_i vr
    try refine WL.wanted rfl rfl rfl ?_
    apply WL.callV ([outH ob (outR xs (K.take i))])
    · exact rfl
    · exact rfl
    · exact rfl
    · exact fun w => Try.call20 _ w
    · (focus ((repeat constructor); done))
    · exact fun w1 S1 hS1 hs1 ho1 => add_spec ob (outR xs (K.take i)) p vr (readyO (getW xs p)) w1 S1 hS1 (ho1 (.own 9 1 (vr) (readyO (getW xs p)).length ((readyO (getW xs p)).map str)) _ (by repeat constructor)).own (by omega)
    rintro _ _ ⟨rfl, rfl⟩
    first | refine WL.app4 ?_ | refine WL.app3 ?_ | refine WL.app2 ?_ | refine WL.app1 ?_ | refine WL.app0 ?_ | skip
    rw [← hst]
    repeat first
      | (apply WL.q; exact rfl; exact rfl; exact rfl; (first | (apply EvW.move; exact rfl) | (apply EvW.assign; exact rfl) | (apply EvW.nilPtr; exact rfl) | (apply EvW.fieldAddr0; exact rfl; exact FldC.eq) | (apply EvW.fieldAddr; exact rfl; exact FldC.eq) | (apply EvW.load; exact rfl; exact ScalC.eq; (focus ((repeat constructor); done)); exact rfl) | (apply EvW.ldSeen; exact rfl; exact ScalC.eq; assumption; (first | exact rfl | assumption)) | (apply EvW.ldFld; exact rfl; exact ScalC.eq; assumption; exact fun _ => rfl; omega; exact rfl; exact inferInstance) | (apply EvW.lenL; exact rfl; exact UndC.eq) | (apply EvW.cmpT; exact rfl; exact rfl; exact rfl; omega) | (apply EvW.cmpF; exact rfl; exact rfl; exact rfl; omega) | (apply EvW.cmp; exact rfl; exact rfl; exact rfl) | (apply EvW.arN; exact rfl; exact rfl; exact rfl; refine i64_in ?_ ?_ <;> omega) | (apply EvW.ar; exact rfl; exact rfl; exact rfl) | (apply EvW.loadAgg; exact rfl; exact AggC.eq; exact SzC.eq; (focus ((repeat constructor); done)); (focus ((repeat (first | exact SubL.nil | apply SubL.cons | apply SubL.succ)); done))) | (apply EvW.makeFunc; exact rfl) | (apply EvW.ldStr; exact rfl; exact ScalC.eq; assumption; omega) | (apply EvW.ldStrOwn; exact rfl; exact ScalC.eq; (focus ((repeat constructor); done)); omega) | (apply EvW.lenRow; exact rfl; exact UndC.eq; assumption) | (apply EvW.lenOwn; exact rfl; exact UndC.eq; (focus ((repeat constructor); done))) | (apply EvW.idxRow; exact rfl; exact rfl; exact UndC.eq; exact SzC.eq; assumption; omega; omega) | (apply EvW.idxOwn; exact rfl; exact rfl; exact UndC.eq; exact SzC.eq; (focus ((repeat constructor); done)); omega; omega) | (apply EvW.ldInt; exact rfl; exact ScalC.eq; assumption; omega) | (apply EvW.ldIntOwn; exact rfl; exact ScalC.eq; (focus ((repeat constructor); done)); omega) | (apply EvW.fldRow; exact rfl; exact FldC.eq; assumption; omega) | (apply EvW.fldOwn; exact rfl; exact FldC.eq; (focus ((repeat constructor); done)); omega) | (apply EvW.nilElemOwn; exact rfl; (focus ((repeat constructor); done)); omega) | (apply EvW.nilElemRow; exact rfl; assumption; omega) | (apply EvW.ldFldOwn; exact rfl; exact ScalC.eq; (focus ((repeat constructor); done)); exact fun _ => rfl; omega; exact rfl; exact inferInstance) | (apply EvW.lookup; exact rfl; exact rfl; exact UndC.eq; exact UndC.eq; exact ZvC.eq; (focus ((repeat constructor); done))) | (apply EvW.lookupOk; exact rfl; exact rfl; exact UndC.eq; exact UndC.eq; exact ZvC.eq; (focus ((repeat constructor); done))) | (apply EvW.lookupT; exact rfl; exact rfl; exact UndC.eq; exact UndC.eq; exact ZvC.eq; (focus ((repeat constructor); done)))))
      | refine WC.seq ?_ | refine WC.region ?_ | refine WL.nil ?_ | refine WE.next ?_ | refine WC.block ?_ | refine WC.skip ?_ | refine WC.exit ?_ | refine WE.pass ?_ | refine WE.hit ?_ | refine WE.miss rfl ?_ | refine WE.out ?_ | refine WC.condT rfl ?_ | refine WC.condF rfl ?_ | refine WC.ret ?_ | refine WE.passRet ?_ | refine WE.outRet ?_ | refine WL.wanted rfl rfl rfl ?_ | (apply WL.store; exact rfl; exact rfl; (first | assumption | exact rfl); exact SzC.eq; (first | assumption | exact rfl); (focus ((repeat constructor); done)))
    exact WE.again (s := i) ((i + 1)) (by omega) (by (focus ((repeat (first | exact trivial | (refine ⟨rfl, ?_⟩))); done))) (fun _ h => (by (try simp only []); exact h.keep (by repeat constructor))) (by (try simp only []); omega)
  obtain rfl : i = K.length := by omega
  rw [List.take_length]
  have hz1 : (zsR zs K).map (·.1) = xs.map readyW := by
    rw [zsR_all zs K (fun z hz' => by
      rw [hKp.mem_iff, ← hz, List.map_map]
      exact List.mem_map.2 ⟨z, hz', rfl⟩), hz]
  have hkv := zsR_kv zs K
  generalize zsR zs K = z1 at hz1 hkv
  rw [← hkv]
  have h0 : passF xs (l.take 0) = (xs.map readyW, outR xs K) := by unfold passF; rw [List.take_zero, hK]; rfl
  refine WC.keep (xs := [.blk wb #[.map (some mb)] 50, .tmap mb ((z1).map kv), sepL ((z1).map wz), outH ob (passF xs (l.take 0)).2]) (by rw [h0]; (focus ((repeat constructor); done))) ?_
  repeat first
    | (apply WL.q; exact rfl; exact rfl; exact rfl; (first | (apply EvW.move; exact rfl) | (apply EvW.assign; exact rfl) | (apply EvW.nilPtr; exact rfl) | (apply EvW.fieldAddr0; exact rfl; exact FldC.eq) | (apply EvW.fieldAddr; exact rfl; exact FldC.eq) | (apply EvW.load; exact rfl; exact ScalC.eq; (focus ((repeat constructor); done)); exact rfl) | (apply EvW.ldSeen; exact rfl; exact ScalC.eq; assumption; (first | exact rfl | assumption)) | (apply EvW.ldFld; exact rfl; exact ScalC.eq; assumption; exact fun _ => rfl; omega; exact rfl; exact inferInstance) | (apply EvW.lenL; exact rfl; exact UndC.eq) | (apply EvW.cmpT; exact rfl; exact rfl; exact rfl; omega) | (apply EvW.cmpF; exact rfl; exact rfl; exact rfl; omega) | (apply EvW.cmp; exact rfl; exact rfl; exact rfl) | (apply EvW.arN; exact rfl; exact rfl; exact rfl; refine i64_in ?_ ?_ <;> omega) | (apply EvW.ar; exact rfl; exact rfl; exact rfl) | (apply EvW.loadAgg; exact rfl; exact AggC.eq; exact SzC.eq; (focus ((repeat constructor); done)); (focus ((repeat (first | exact SubL.nil | apply SubL.cons | apply SubL.succ)); done))) | (apply EvW.makeFunc; exact rfl) | (apply EvW.ldStr; exact rfl; exact ScalC.eq; assumption; omega) | (apply EvW.ldStrOwn; exact rfl; exact ScalC.eq; (focus ((repeat constructor); done)); omega) | (apply EvW.lenRow; exact rfl; exact UndC.eq; assumption) | (apply EvW.lenOwn; exact rfl; exact UndC.eq; (focus ((repeat constructor); done))) | (apply EvW.idxRow; exact rfl; exact rfl; exact UndC.eq; exact SzC.eq; assumption; omega; omega) | (apply EvW.idxOwn; exact rfl; exact rfl; exact UndC.eq; exact SzC.eq; (focus ((repeat constructor); done)); omega; omega) | (apply EvW.ldInt; exact rfl; exact ScalC.eq; assumption; omega) | (apply EvW.ldIntOwn; exact rfl; exact ScalC.eq; (focus ((repeat constructor); done)); omega) | (apply EvW.fldRow; exact rfl; exact FldC.eq; assumption; omega) | (apply EvW.fldOwn; exact rfl; exact FldC.eq; (focus ((repeat constructor); done)); omega) | (apply EvW.nilElemOwn; exact rfl; (focus ((repeat constructor); done)); omega) | (apply EvW.nilElemRow; exact rfl; assumption; omega) | (apply EvW.ldFldOwn; exact rfl; exact ScalC.eq; (focus ((repeat constructor); done)); exact fun _ => rfl; omega; exact rfl; exact inferInstance) | (apply EvW.lookup; exact rfl; exact rfl; exact UndC.eq; exact UndC.eq; exact ZvC.eq; (focus ((repeat constructor); done))) | (apply EvW.lookupOk; exact rfl; exact rfl; exact UndC.eq; exact UndC.eq; exact ZvC.eq; (focus ((repeat constructor); done))) | (apply EvW.lookupT; exact rfl; exact rfl; exact UndC.eq; exact UndC.eq; exact ZvC.eq; (focus ((repeat constructor); done)))))
    | refine WC.seq ?_ | refine WC.region ?_ | refine WL.nil ?_ | refine WE.next ?_ | refine WC.block ?_ | refine WC.skip ?_ | refine WC.exit ?_ | refine WE.pass ?_ | refine WE.hit ?_ | refine WE.miss rfl ?_ | refine WE.out ?_ | refine WC.condT rfl ?_ | refine WC.condF rfl ?_ | refine WC.ret ?_ | refine WE.passRet ?_ | refine WE.outRet ?_ | refine WL.wanted rfl rfl rfl ?_ | (apply WL.store; exact rfl; exact rfl; (first | assumption | exact rfl); exact SzC.eq; (first | assumption | exact rfl); (focus ((repeat constructor); done)))
  refine WC.loopK (σ := Nat × Zs) [0, 5, 6, 34, 35] (fun s => [(36, i64 s.1)]) (fun s => [.blk wb #[.map (some mb)] 50, .tmap mb ((s.2).map kv), sepL ((s.2).map wz), outH ob (passF xs (l.take s.1)).2]) (fun s => s.1 ≤ l.length ∧ s.2.map (·.1) = (passF xs (l.take s.1)).1) (fun s => l.length - s.1) (0, z1) (by (focus ((repeat (first | exact Pick.nil | (apply Pick.cons; exact rfl))); done))) (by (focus ((repeat (first | exact trivial | (refine ⟨rfl, ?_⟩))); done))) (fun _ h => h.keep (by repeat constructor)) ⟨Nat.zero_le _, by rw [h0]; exact hz1⟩ (fun s hs => ?_)
  obtain ⟨i, zz⟩ := s
  simp only [List.cons_append, List.nil_append] at hs ⊢
  obtain ⟨hi0, hzz⟩ := hs
  by_cases hlt2 : (i : Int) < l.length
  · have hi : i < l.length := by omega
    have hbd := pass_bd xs (l.take i) hk.nodup
    have hstep := pass_take xs l i hi
    have htl : (l.getD i default).2.length ≤ 140737488355328 := ht _ (by rw [List.getD_eq_getElem?_getD, List.getElem?_eq_getElem hi]; exact List.getElem_mem hi)
    rw [List.length_take] at hbd
    obtain ⟨sv, hsv⟩ : ∃ sv, passF xs (l.take i) = sv := ⟨_, rfl⟩
    rw [hsv] at hzz hbd hstep ⊢
    repeat first
      | (apply WL.q; exact rfl; exact rfl; exact rfl; (first | (apply EvW.move; exact rfl) | (apply EvW.assign; exact rfl) | (apply EvW.nilPtr; exact rfl) | (apply EvW.fieldAddr0; exact rfl; exact FldC.eq) | (apply EvW.fieldAddr; exact rfl; exact FldC.eq) | (apply EvW.load; exact rfl; exact ScalC.eq; (focus ((repeat constructor); done)); exact rfl) | (apply EvW.ldSeen; exact rfl; exact ScalC.eq; assumption; (first | exact rfl | assumption)) | (apply EvW.ldFld; exact rfl; exact ScalC.eq; assumption; exact fun _ => rfl; omega; exact rfl; exact inferInstance) | (apply EvW.lenL; exact rfl; exact UndC.eq) | (apply EvW.cmpT; exact rfl; exact rfl; exact rfl; omega) | (apply EvW.cmpF; exact rfl; exact rfl; exact rfl; omega) | (apply EvW.cmp; exact rfl; exact rfl; exact rfl) | (apply EvW.arN; exact rfl; exact rfl; exact rfl; refine i64_in ?_ ?_ <;> omega) | (apply EvW.ar; exact rfl; exact rfl; exact rfl) | (apply EvW.loadAgg; exact rfl; exact AggC.eq; exact SzC.eq; (focus ((repeat constructor); done)); (focus ((repeat (first | exact SubL.nil | apply SubL.cons | apply SubL.succ)); done))) | (apply EvW.makeFunc; exact rfl) | (apply EvW.ldStr; exact rfl; exact ScalC.eq; assumption; omega) | (apply EvW.ldStrOwn; exact rfl; exact ScalC.eq; (focus ((repeat constructor); done)); omega) | (apply EvW.lenRow; exact rfl; exact UndC.eq; assumption) | (apply EvW.lenOwn; exact rfl; exact UndC.eq; (focus ((repeat constructor); done))) | (apply EvW.idxRow; exact rfl; exact rfl; exact UndC.eq; exact SzC.eq; assumption; omega; omega) | (apply EvW.idxOwn; exact rfl; exact rfl; exact UndC.eq; exact SzC.eq; (focus ((repeat constructor); done)); omega; omega) | (apply EvW.ldInt; exact rfl; exact ScalC.eq; assumption; omega) | (apply EvW.ldIntOwn; exact rfl; exact ScalC.eq; (focus ((repeat constructor); done)); omega) | (apply EvW.fldRow; exact rfl; exact FldC.eq; assumption; omega) | (apply EvW.fldOwn; exact rfl; exact FldC.eq; (focus ((repeat constructor); done)); omega) | (apply EvW.nilElemOwn; exact rfl; (focus ((repeat constructor); done)); omega) | (apply EvW.nilElemRow; exact rfl; assumption; omega) | (apply EvW.ldFldOwn; exact rfl; exact ScalC.eq; (focus ((repeat constructor); done)); exact fun _ => rfl; omega; exact rfl; exact inferInstance) | (apply EvW.lookup; exact rfl; exact rfl; exact UndC.eq; exact UndC.eq; exact ZvC.eq; (focus ((repeat constructor); done))) | (apply EvW.lookupOk; exact rfl; exact rfl; exact UndC.eq; exact UndC.eq; exact ZvC.eq; (focus ((repeat constructor); done))) | (apply EvW.lookupT; exact rfl; exact rfl; exact UndC.eq; exact UndC.eq; exact ZvC.eq; (focus ((repeat constructor); done)))))
      | refine WC.seq ?_ | refine WC.region ?_ | refine WL.nil ?_ | refine WE.next ?_ | refine WC.block ?_ | refine WC.skip ?_ | refine WC.exit ?_ | refine WE.pass ?_ | refine WE.hit ?_ | refine WE.miss rfl ?_ | refine WE.out ?_ | refine WC.condT rfl ?_ | refine WC.condF rfl ?_ | refine WC.ret ?_ | refine WE.passRet ?_ | refine WE.outRet ?_ | refine WL.wanted rfl rfl rfl ?_ | (apply WL.store; exact rfl; exact rfl; (first | assumption | exact rfl); exact SzC.eq; (first | assumption | exact rfl); (focus ((repeat constructor); done)))
    (apply WL.q; exact rfl; exact rfl; exact rfl; (apply EvW.ldElem (xs := l) (z := (default : Tel)) (f := telC); exact rfl; exact AggC.eq; exact SzC.eq; exact rfl; exact fun _ => rfl; assumption; omega))
    try refine WL.wanted rfl rfl rfl ?_
    (apply WL.alloc; exact rfl; exact ZvC.eq; exact rfl; intro tb)
    rw [show ((i : Nat) : Int).toNat = i from rfl]
    obtain ⟨t, htt⟩ : ∃ t, l.getD i default = t := ⟨_, rfl⟩
    rw [htt] at hstep htl ⊢
    obtain ⟨q, hqq⟩ : ∃ q, (ofF sv.1 t.1).getD (ixW sv.1 t.1) default = q := ⟨_, rfl⟩
    have hjb : ∀ b, ixW sv.1 t.1 < (ofZ zz t.1 b).length := fun b => by have := ixW_of zz t.1 b; rw [hzz] at this; exact this
    have hqb : ∀ b, ((ofZ zz t.1 b).getD (ixW sv.1 t.1) default).1 = q := fun b => by
      rw [← map_getD (·.1) _ _ (hjb b), ofZ_fst, hzz]; exact hqq
    have hqs : wSize q ≤ underF sv.1 := by rw [← hqq, ← under_of sv.1 t.1]; exact sum_at _ _
    have hil := inO_le q t.2
    have hs1 : stepF sv t = ((ofF sv.1 t.1).set (ixW sv.1 t.1) (inW q t.2), sv.2 ++ telsOf t.1 (inO q t.2)) := by unfold stepF; rw [hqq]
    repeat first
      | (apply WL.q; exact rfl; exact rfl; exact rfl; (first | (apply EvW.move; exact rfl) | (apply EvW.assign; exact rfl) | (apply EvW.nilPtr; exact rfl) | (apply EvW.fieldAddr0; exact rfl; exact FldC.eq) | (apply EvW.fieldAddr; exact rfl; exact FldC.eq) | (apply EvW.load; exact rfl; exact ScalC.eq; (focus ((repeat constructor); done)); exact rfl) | (apply EvW.ldSeen; exact rfl; exact ScalC.eq; assumption; (first | exact rfl | assumption)) | (apply EvW.ldFld; exact rfl; exact ScalC.eq; assumption; exact fun _ => rfl; omega; exact rfl; exact inferInstance) | (apply EvW.lenL; exact rfl; exact UndC.eq) | (apply EvW.cmpT; exact rfl; exact rfl; exact rfl; omega) | (apply EvW.cmpF; exact rfl; exact rfl; exact rfl; omega) | (apply EvW.cmp; exact rfl; exact rfl; exact rfl) | (apply EvW.arN; exact rfl; exact rfl; exact rfl; refine i64_in ?_ ?_ <;> omega) | (apply EvW.ar; exact rfl; exact rfl; exact rfl) | (apply EvW.loadAgg; exact rfl; exact AggC.eq; exact SzC.eq; (focus ((repeat constructor); done)); (focus ((repeat (first | exact SubL.nil | apply SubL.cons | apply SubL.succ)); done))) | (apply EvW.makeFunc; exact rfl) | (apply EvW.ldStr; exact rfl; exact ScalC.eq; assumption; omega) | (apply EvW.ldStrOwn; exact rfl; exact ScalC.eq; (focus ((repeat constructor); done)); omega) | (apply EvW.lenRow; exact rfl; exact UndC.eq; assumption) | (apply EvW.lenOwn; exact rfl; exact UndC.eq; (focus ((repeat constructor); done))) | (apply EvW.idxRow; exact rfl; exact rfl; exact UndC.eq; exact SzC.eq; assumption; omega; omega) | (apply EvW.idxOwn; exact rfl; exact rfl; exact UndC.eq; exact SzC.eq; (focus ((repeat constructor); done)); omega; omega) | (apply EvW.ldInt; exact rfl; exact ScalC.eq; assumption; omega) | (apply EvW.ldIntOwn; exact rfl; exact ScalC.eq; (focus ((repeat constructor); done)); omega) | (apply EvW.fldRow; exact rfl; exact FldC.eq; assumption; omega) | (apply EvW.fldOwn; exact rfl; exact FldC.eq; (focus ((repeat constructor); done)); omega) | (apply EvW.nilElemOwn; exact rfl; (focus ((repeat constructor); done)); omega) | (apply EvW.nilElemRow; exact rfl; assumption; omega) | (apply EvW.ldFldOwn; exact rfl; exact ScalC.eq; (focus ((repeat constructor); done)); exact fun _ => rfl; omega; exact rfl; exact inferInstance) | (apply EvW.lookup; exact rfl; exact rfl; exact UndC.eq; exact UndC.eq; exact ZvC.eq; (focus ((repeat constructor); done))) | (apply EvW.lookupOk; exact rfl; exact rfl; exact UndC.eq; exact UndC.eq; exact ZvC.eq; (focus ((repeat constructor); done))) | (apply EvW.lookupT; exact rfl; exact rfl; exact UndC.eq; exact UndC.eq; exact ZvC.eq; (focus ((repeat constructor); done)))))
      | refine WC.seq ?_ | refine WC.region ?_ | refine WL.nil ?_ | refine WE.next ?_ | refine WC.block ?_ | refine WC.skip ?_ | refine WC.exit ?_ | refine WE.pass ?_ | refine WE.hit ?_ | refine WE.miss rfl ?_ | refine WE.out ?_ | refine WC.condT rfl ?_ | refine WC.condF rfl ?_ | refine WC.ret ?_ | refine WE.passRet ?_ | refine WE.outRet ?_ | refine WL.wanted rfl rfl rfl ?_ | (apply WL.store; exact rfl; exact rfl; (first | assumption | exact rfl); exact SzC.eq; (first | assumption | exact rfl); (focus ((repeat constructor); done)))
    repeat refine WC.seq ?_
    refine WC.keep (xs := [.blk wb #[.map (some mb)] 50, .tmap mb ((zz).map kv), sepL ((zz).map wz), outH ob sv.2, .blk tb #[i64 t.1, str t.2] 34]) (by repeat constructor) ?_
    apply WC.par _ (fun c : Ch => [.blk wb #[.map (some mb)] 50, .blk wb #[.map (some mb)] 50, .tmap mb ((zz).map kv), .tmap mb (((ofZ zz t.1 (c 6).1)).map kv), sepL ((zz).map wz), sepL (((ofZ zz t.1 (c 6).1)).map wz), sepL ((((ofZ zz t.1 (c 6).1).set (ixW sv.1 t.1) (inW q t.2, ((ofZ zz t.1 (c 6).1).getD (ixW sv.1 t.1) default).2))).map wz), .own 9 1 ((c 9).2) (inO q t.2).length ((inO q t.2).map str), outH ob sv.2, outH ob (sv.2 ++ telsOf t.1 (inO q t.2)), .blk tb #[i64 t.1, str t.2] 34]) [none, some 6, none, some 6, none, some 6, some 9, some 9, none, some 10, none] [some 6, none, some 6, none, some 6, some 9, none, none, some 10, none, none] [(6, fun x => ptr ((ofZ zz t.1 x.1).getD (ixW sv.1 t.1) default).2 0), (9, fun x => x.2)] Try.mixed
    · (focus ((repeat (first | exact Restr.nil | (apply Restr.keep; exact rfl; exact rfl) | (apply Restr.drop; exact rfl))); done))
    · intro c; exact (by repeat constructor)
    · exact rfl
    · decide +kernel
    · decide +kernel
    · intro c
      (apply Par.quiet _ [false, false, false, false, false, false, false, false, true, false, true]; exact rfl; decide +kernel; exact rfl; intro R; refine ⟨_, (by repeat constructor), ?_⟩;
           (first | (apply EvW.move; exact rfl) | (apply EvW.assign; exact rfl) | (apply EvW.nilPtr; exact rfl) | (apply EvW.fieldAddr0; exact rfl; exact FldC.eq) | (apply EvW.fieldAddr; exact rfl; exact FldC.eq) | (apply EvW.load; exact rfl; exact ScalC.eq; (focus ((repeat constructor); done)); exact rfl) | (apply EvW.ldSeen; exact rfl; exact ScalC.eq; assumption; (first | exact rfl | assumption)) | (apply EvW.ldFld; exact rfl; exact ScalC.eq; assumption; exact fun _ => rfl; omega; exact rfl; exact inferInstance) | (apply EvW.lenL; exact rfl; exact UndC.eq) | (apply EvW.cmpT; exact rfl; exact rfl; exact rfl; omega) | (apply EvW.cmpF; exact rfl; exact rfl; exact rfl; omega) | (apply EvW.cmp; exact rfl; exact rfl; exact rfl) | (apply EvW.arN; exact rfl; exact rfl; exact rfl; refine i64_in ?_ ?_ <;> omega) | (apply EvW.ar; exact rfl; exact rfl; exact rfl) | (apply EvW.loadAgg; exact rfl; exact AggC.eq; exact SzC.eq; (focus ((repeat constructor); done)); (focus ((repeat (first | exact SubL.nil | apply SubL.cons | apply SubL.succ)); done))) | (apply EvW.makeFunc; exact rfl) | (apply EvW.ldStr; exact rfl; exact ScalC.eq; assumption; omega) | (apply EvW.ldStrOwn; exact rfl; exact ScalC.eq; (focus ((repeat constructor); done)); omega) | (apply EvW.lenRow; exact rfl; exact UndC.eq; assumption) | (apply EvW.lenOwn; exact rfl; exact UndC.eq; (focus ((repeat constructor); done))) | (apply EvW.idxRow; exact rfl; exact rfl; exact UndC.eq; exact SzC.eq; assumption; omega; omega) | (apply EvW.idxOwn; exact rfl; exact rfl; exact UndC.eq; exact SzC.eq; (focus ((repeat constructor); done)); omega; omega) | (apply EvW.ldInt; exact rfl; exact ScalC.eq; assumption; omega) | (apply EvW.ldIntOwn; exact rfl; exact ScalC.eq; (focus ((repeat constructor); done)); omega) | (apply EvW.fldRow; exact rfl; exact FldC.eq; assumption; omega) | (apply EvW.fldOwn; exact rfl; exact FldC.eq; (focus ((repeat constructor); done)); omega) | (apply EvW.nilElemOwn; exact rfl; (focus ((repeat constructor); done)); omega) | (apply EvW.nilElemRow; exact rfl; assumption; omega) | (apply EvW.ldFldOwn; exact rfl; exact ScalC.eq; (focus ((repeat constructor); done)); exact fun _ => rfl; omega; exact rfl; exact inferInstance) | (apply EvW.lookup; exact rfl; exact rfl; exact UndC.eq; exact UndC.eq; exact ZvC.eq; (focus ((repeat constructor); done))) | (apply EvW.lookupOk; exact rfl; exact rfl; exact UndC.eq; exact UndC.eq; exact ZvC.eq; (focus ((repeat constructor); done))) | (apply EvW.lookupT; exact rfl; exact rfl; exact UndC.eq; exact UndC.eq; exact ZvC.eq; (focus ((repeat constructor); done)))))
      (apply Par.quiet _ [false, false, false, false, false, false, false, false, true, false, true]; exact rfl; decide +kernel; exact rfl; intro R; refine ⟨_, (by repeat constructor), ?_⟩;
           (first | (apply EvW.move; exact rfl) | (apply EvW.assign; exact rfl) | (apply EvW.nilPtr; exact rfl) | (apply EvW.fieldAddr0; exact rfl; exact FldC.eq) | (apply EvW.fieldAddr; exact rfl; exact FldC.eq) | (apply EvW.load; exact rfl; exact ScalC.eq; (focus ((repeat constructor); done)); exact rfl) | (apply EvW.ldSeen; exact rfl; exact ScalC.eq; assumption; (first | exact rfl | assumption)) | (apply EvW.ldFld; exact rfl; exact ScalC.eq; assumption; exact fun _ => rfl; omega; exact rfl; exact inferInstance) | (apply EvW.lenL; exact rfl; exact UndC.eq) | (apply EvW.cmpT; exact rfl; exact rfl; exact rfl; omega) | (apply EvW.cmpF; exact rfl; exact rfl; exact rfl; omega) | (apply EvW.cmp; exact rfl; exact rfl; exact rfl) | (apply EvW.arN; exact rfl; exact rfl; exact rfl; refine i64_in ?_ ?_ <;> omega) | (apply EvW.ar; exact rfl; exact rfl; exact rfl) | (apply EvW.loadAgg; exact rfl; exact AggC.eq; exact SzC.eq; (focus ((repeat constructor); done)); (focus ((repeat (first | exact SubL.nil | apply SubL.cons | apply SubL.succ)); done))) | (apply EvW.makeFunc; exact rfl) | (apply EvW.ldStr; exact rfl; exact ScalC.eq; assumption; omega) | (apply EvW.ldStrOwn; exact rfl; exact ScalC.eq; (focus ((repeat constructor); done)); omega) | (apply EvW.lenRow; exact rfl; exact UndC.eq; assumption) | (apply EvW.lenOwn; exact rfl; exact UndC.eq; (focus ((repeat constructor); done))) | (apply EvW.idxRow; exact rfl; exact rfl; exact UndC.eq; exact SzC.eq; assumption; omega; omega) | (apply EvW.idxOwn; exact rfl; exact rfl; exact UndC.eq; exact SzC.eq; (focus ((repeat constructor); done)); omega; omega) | (apply EvW.ldInt; exact rfl; exact ScalC.eq; assumption; omega) | (apply EvW.ldIntOwn; exact rfl; exact ScalC.eq; (focus ((repeat constructor); done)); omega) | (apply EvW.fldRow; exact rfl; exact FldC.eq; assumption; omega) | (apply EvW.fldOwn; exact rfl; exact FldC.eq; (focus ((repeat constructor); done)); omega) | (apply EvW.nilElemOwn; exact rfl; (focus ((repeat constructor); done)); omega) | (apply EvW.nilElemRow; exact rfl; assumption; omega) | (apply EvW.ldFldOwn; exact rfl; exact ScalC.eq; (focus ((repeat constructor); done)); exact fun _ => rfl; omega; exact rfl; exact inferInstance) | (apply EvW.lookup; exact rfl; exact rfl; exact UndC.eq; exact UndC.eq; exact ZvC.eq; (focus ((repeat constructor); done))) | (apply EvW.lookupOk; exact rfl; exact rfl; exact UndC.eq; exact UndC.eq; exact ZvC.eq; (focus ((repeat constructor); done))) | (apply EvW.lookupT; exact rfl; exact rfl; exact UndC.eq; exact UndC.eq; exact ZvC.eq; (focus ((repeat constructor); done)))))
      (apply Par.quiet _ [false, false, false, false, false, false, false, false, true, false, true]; exact rfl; decide +kernel; exact rfl; intro R; refine ⟨_, (by repeat constructor), ?_⟩;
           (first | (apply EvW.move; exact rfl) | (apply EvW.assign; exact rfl) | (apply EvW.nilPtr; exact rfl) | (apply EvW.fieldAddr0; exact rfl; exact FldC.eq) | (apply EvW.fieldAddr; exact rfl; exact FldC.eq) | (apply EvW.load; exact rfl; exact ScalC.eq; (focus ((repeat constructor); done)); exact rfl) | (apply EvW.ldSeen; exact rfl; exact ScalC.eq; assumption; (first | exact rfl | assumption)) | (apply EvW.ldFld; exact rfl; exact ScalC.eq; assumption; exact fun _ => rfl; omega; exact rfl; exact inferInstance) | (apply EvW.lenL; exact rfl; exact UndC.eq) | (apply EvW.cmpT; exact rfl; exact rfl; exact rfl; omega) | (apply EvW.cmpF; exact rfl; exact rfl; exact rfl; omega) | (apply EvW.cmp; exact rfl; exact rfl; exact rfl) | (apply EvW.arN; exact rfl; exact rfl; exact rfl; refine i64_in ?_ ?_ <;> omega) | (apply EvW.ar; exact rfl; exact rfl; exact rfl) | (apply EvW.loadAgg; exact rfl; exact AggC.eq; exact SzC.eq; (focus ((repeat constructor); done)); (focus ((repeat (first | exact SubL.nil | apply SubL.cons | apply SubL.succ)); done))) | (apply EvW.makeFunc; exact rfl) | (apply EvW.ldStr; exact rfl; exact ScalC.eq; assumption; omega) | (apply EvW.ldStrOwn; exact rfl; exact ScalC.eq; (focus ((repeat constructor); done)); omega) | (apply EvW.lenRow; exact rfl; exact UndC.eq; assumption) | (apply EvW.lenOwn; exact rfl; exact UndC.eq; (focus ((repeat constructor); done))) | (apply EvW.idxRow; exact rfl; exact rfl; exact UndC.eq; exact SzC.eq; assumption; omega; omega) | (apply EvW.idxOwn; exact rfl; exact rfl; exact UndC.eq; exact SzC.eq; (focus ((repeat constructor); done)); omega; omega) | (apply EvW.ldInt; exact rfl; exact ScalC.eq; assumption; omega) | (apply EvW.ldIntOwn; exact rfl; exact ScalC.eq; (focus ((repeat constructor); done)); omega) | (apply EvW.fldRow; exact rfl; exact FldC.eq; assumption; omega) | (apply EvW.fldOwn; exact rfl; exact FldC.eq; (focus ((repeat constructor); done)); omega) | (apply EvW.nilElemOwn; exact rfl; (focus ((repeat constructor); done)); omega) | (apply EvW.nilElemRow; exact rfl; assumption; omega) | (apply EvW.ldFldOwn; exact rfl; exact ScalC.eq; (focus ((repeat constructor); done)); exact fun _ => rfl; omega; exact rfl; exact inferInstance) | (apply EvW.lookup; exact rfl; exact rfl; exact UndC.eq; exact UndC.eq; exact ZvC.eq; (focus ((repeat constructor); done))) | (apply EvW.lookupOk; exact rfl; exact rfl; exact UndC.eq; exact UndC.eq; exact ZvC.eq; (focus ((repeat constructor); done))) | (apply EvW.lookupT; exact rfl; exact rfl; exact UndC.eq; exact UndC.eq; exact ZvC.eq; (focus ((repeat constructor); done)))))
      (apply Par.quiet _ [true, false, true, false, true, false, false, false, true, false, true]; exact rfl; decide +kernel; exact rfl; intro R; refine ⟨_, (by repeat constructor), ?_⟩;
           (first | (apply EvW.move; exact rfl) | (apply EvW.assign; exact rfl) | (apply EvW.nilPtr; exact rfl) | (apply EvW.fieldAddr0; exact rfl; exact FldC.eq) | (apply EvW.fieldAddr; exact rfl; exact FldC.eq) | (apply EvW.load; exact rfl; exact ScalC.eq; (focus ((repeat constructor); done)); exact rfl) | (apply EvW.ldSeen; exact rfl; exact ScalC.eq; assumption; (first | exact rfl | assumption)) | (apply EvW.ldFld; exact rfl; exact ScalC.eq; assumption; exact fun _ => rfl; omega; exact rfl; exact inferInstance) | (apply EvW.lenL; exact rfl; exact UndC.eq) | (apply EvW.cmpT; exact rfl; exact rfl; exact rfl; omega) | (apply EvW.cmpF; exact rfl; exact rfl; exact rfl; omega) | (apply EvW.cmp; exact rfl; exact rfl; exact rfl) | (apply EvW.arN; exact rfl; exact rfl; exact rfl; refine i64_in ?_ ?_ <;> omega) | (apply EvW.ar; exact rfl; exact rfl; exact rfl) | (apply EvW.loadAgg; exact rfl; exact AggC.eq; exact SzC.eq; (focus ((repeat constructor); done)); (focus ((repeat (first | exact SubL.nil | apply SubL.cons | apply SubL.succ)); done))) | (apply EvW.makeFunc; exact rfl) | (apply EvW.ldStr; exact rfl; exact ScalC.eq; assumption; omega) | (apply EvW.ldStrOwn; exact rfl; exact ScalC.eq; (focus ((repeat constructor); done)); omega) | (apply EvW.lenRow; exact rfl; exact UndC.eq; assumption) | (apply EvW.lenOwn; exact rfl; exact UndC.eq; (focus ((repeat constructor); done))) | (apply EvW.idxRow; exact rfl; exact rfl; exact UndC.eq; exact SzC.eq; assumption; omega; omega) | (apply EvW.idxOwn; exact rfl; exact rfl; exact UndC.eq; exact SzC.eq; (focus ((repeat constructor); done)); omega; omega) | (apply EvW.ldInt; exact rfl; exact ScalC.eq; assumption; omega) | (apply EvW.ldIntOwn; exact rfl; exact ScalC.eq; (focus ((repeat constructor); done)); omega) | (apply EvW.fldRow; exact rfl; exact FldC.eq; assumption; omega) | (apply EvW.fldOwn; exact rfl; exact FldC.eq; (focus ((repeat constructor); done)); omega) | (apply EvW.nilElemOwn; exact rfl; (focus ((repeat constructor); done)); omega) | (apply EvW.nilElemRow; exact rfl; assumption; omega) | (apply EvW.ldFldOwn; exact rfl; exact ScalC.eq; (focus ((repeat constructor); done)); exact fun _ => rfl; omega; exact rfl; exact inferInstance) | (apply EvW.lookup; exact rfl; exact rfl; exact UndC.eq; exact UndC.eq; exact ZvC.eq; (focus ((repeat constructor); done))) | (apply EvW.lookupOk; exact rfl; exact rfl; exact UndC.eq; exact UndC.eq; exact ZvC.eq; (focus ((repeat constructor); done))) | (apply EvW.lookupT; exact rfl; exact rfl; exact UndC.eq; exact UndC.eq; exact ZvC.eq; (focus ((repeat constructor); done)))))
      (apply Par.quiet _ [true, false, true, false, true, false, false, false, true, false, true]; exact rfl; decide +kernel; exact rfl; intro R; refine ⟨_, (by repeat constructor), ?_⟩;
           (first | (apply EvW.move; exact rfl) | (apply EvW.assign; exact rfl) | (apply EvW.nilPtr; exact rfl) | (apply EvW.fieldAddr0; exact rfl; exact FldC.eq) | (apply EvW.fieldAddr; exact rfl; exact FldC.eq) | (apply EvW.load; exact rfl; exact ScalC.eq; (focus ((repeat constructor); done)); exact rfl) | (apply EvW.ldSeen; exact rfl; exact ScalC.eq; assumption; (first | exact rfl | assumption)) | (apply EvW.ldFld; exact rfl; exact ScalC.eq; assumption; exact fun _ => rfl; omega; exact rfl; exact inferInstance) | (apply EvW.lenL; exact rfl; exact UndC.eq) | (apply EvW.cmpT; exact rfl; exact rfl; exact rfl; omega) | (apply EvW.cmpF; exact rfl; exact rfl; exact rfl; omega) | (apply EvW.cmp; exact rfl; exact rfl; exact rfl) | (apply EvW.arN; exact rfl; exact rfl; exact rfl; refine i64_in ?_ ?_ <;> omega) | (apply EvW.ar; exact rfl; exact rfl; exact rfl) | (apply EvW.loadAgg; exact rfl; exact AggC.eq; exact SzC.eq; (focus ((repeat constructor); done)); (focus ((repeat (first | exact SubL.nil | apply SubL.cons | apply SubL.succ)); done))) | (apply EvW.makeFunc; exact rfl) | (apply EvW.ldStr; exact rfl; exact ScalC.eq; assumption; omega) | (apply EvW.ldStrOwn; exact rfl; exact ScalC.eq; (focus ((repeat constructor); done)); omega) | (apply EvW.lenRow; exact rfl; exact UndC.eq; assumption) | (apply EvW.lenOwn; exact rfl; exact UndC.eq; (focus ((repeat constructor); done))) | (apply EvW.idxRow; exact rfl; exact rfl; exact UndC.eq; exact SzC.eq; assumption; omega; omega) | (apply EvW.idxOwn; exact rfl; exact rfl; exact UndC.eq; exact SzC.eq; (focus ((repeat constructor); done)); omega; omega) | (apply EvW.ldInt; exact rfl; exact ScalC.eq; assumption; omega) | (apply EvW.ldIntOwn; exact rfl; exact ScalC.eq; (focus ((repeat constructor); done)); omega) | (apply EvW.fldRow; exact rfl; exact FldC.eq; assumption; omega) | (apply EvW.fldOwn; exact rfl; exact FldC.eq; (focus ((repeat constructor); done)); omega) | (apply EvW.nilElemOwn; exact rfl; (focus ((repeat constructor); done)); omega) | (apply EvW.nilElemRow; exact rfl; assumption; omega) | (apply EvW.ldFldOwn; exact rfl; exact ScalC.eq; (focus ((repeat constructor); done)); exact fun _ => rfl; omega; exact rfl; exact inferInstance) | (apply EvW.lookup; exact rfl; exact rfl; exact UndC.eq; exact UndC.eq; exact ZvC.eq; (focus ((repeat constructor); done))) | (apply EvW.lookupOk; exact rfl; exact rfl; exact UndC.eq; exact UndC.eq; exact ZvC.eq; (focus ((repeat constructor); done))) | (apply EvW.lookupT; exact rfl; exact rfl; exact UndC.eq; exact UndC.eq; exact ZvC.eq; (focus ((repeat constructor); done)))))
      (apply Par.quiet _ [true, false, true, false, true, false, false, false, true, false, true]; exact rfl; decide +kernel; exact rfl; intro R; refine ⟨_, (by repeat constructor), ?_⟩;
           (first | (apply EvW.move; exact rfl) | (apply EvW.assign; exact rfl) | (apply EvW.nilPtr; exact rfl) | (apply EvW.fieldAddr0; exact rfl; exact FldC.eq) | (apply EvW.fieldAddr; exact rfl; exact FldC.eq) | (apply EvW.load; exact rfl; exact ScalC.eq; (focus ((repeat constructor); done)); exact rfl) | (apply EvW.ldSeen; exact rfl; exact ScalC.eq; assumption; (first | exact rfl | assumption)) | (apply EvW.ldFld; exact rfl; exact ScalC.eq; assumption; exact fun _ => rfl; omega; exact rfl; exact inferInstance) | (apply EvW.lenL; exact rfl; exact UndC.eq) | (apply EvW.cmpT; exact rfl; exact rfl; exact rfl; omega) | (apply EvW.cmpF; exact rfl; exact rfl; exact rfl; omega) | (apply EvW.cmp; exact rfl; exact rfl; exact rfl) | (apply EvW.arN; exact rfl; exact rfl; exact rfl; refine i64_in ?_ ?_ <;> omega) | (apply EvW.ar; exact rfl; exact rfl; exact rfl) | (apply EvW.loadAgg; exact rfl; exact AggC.eq; exact SzC.eq; (focus ((repeat constructor); done)); (focus ((repeat (first | exact SubL.nil | apply SubL.cons | apply SubL.succ)); done))) | (apply EvW.makeFunc; exact rfl) | (apply EvW.ldStr; exact rfl; exact ScalC.eq; assumption; omega) | (apply EvW.ldStrOwn; exact rfl; exact ScalC.eq; (focus ((repeat constructor); done)); omega) | (apply EvW.lenRow; exact rfl; exact UndC.eq; assumption) | (apply EvW.lenOwn; exact rfl; exact UndC.eq; (focus ((repeat constructor); done))) | (apply EvW.idxRow; exact rfl; exact rfl; exact UndC.eq; exact SzC.eq; assumption; omega; omega) | (apply EvW.idxOwn; exact rfl; exact rfl; exact UndC.eq; exact SzC.eq; (focus ((repeat constructor); done)); omega; omega) | (apply EvW.ldInt; exact rfl; exact ScalC.eq; assumption; omega) | (apply EvW.ldIntOwn; exact rfl; exact ScalC.eq; (focus ((repeat constructor); done)); omega) | (apply EvW.fldRow; exact rfl; exact FldC.eq; assumption; omega) | (apply EvW.fldOwn; exact rfl; exact FldC.eq; (focus ((repeat constructor); done)); omega) | (apply EvW.nilElemOwn; exact rfl; (focus ((repeat constructor); done)); omega) | (apply EvW.nilElemRow; exact rfl; assumption; omega) | (apply EvW.ldFldOwn; exact rfl; exact ScalC.eq; (focus ((repeat constructor); done)); exact fun _ => rfl; omega; exact rfl; exact inferInstance) | (apply EvW.lookup; exact rfl; exact rfl; exact UndC.eq; exact UndC.eq; exact ZvC.eq; (focus ((repeat constructor); done))) | (apply EvW.lookupOk; exact rfl; exact rfl; exact UndC.eq; exact UndC.eq; exact ZvC.eq; (focus ((repeat constructor); done))) | (apply EvW.lookupT; exact rfl; exact rfl; exact UndC.eq; exact UndC.eq; exact ZvC.eq; (focus ((repeat constructor); done)))))
      apply Par.new _ [true, false, true, false, true, false, false, false, false, false, false] [false, true, false, true, false, true, false, false, false, false, false] [false, false, false, false, false, false, false, false, true, false, true]
      · exact rfl
      · exact rfl
      · decide +kernel
      · intro R
        refine ⟨_, _, _, (by repeat constructor), (by repeat constructor), (fun x => (by repeat constructor)), ?_⟩
        apply NewW.callA ([.blk wb #[.map (some mb)] 50, .tmap mb ((zz).map kv), sepL ((zz).map wz)]) (fun x => [.blk wb #[.map (some mb)] 50, .tmap mb (((ofZ zz t.1 x.1)).map kv), sepL (((ofZ zz t.1 x.1)).map wz)])
        · exact rfl
        · exact fun w => Try.call19 _ w
        · (focus ((repeat constructor); done))
        · exact fun w1 S1 hS1 hs1 ho1 => (by have h := of_spec zz wb mb t.1 w1 S1 hS1; rw [hzz] at h; exact h)
        · rintro _ _ ⟨b, rfl, rfl⟩; exact ⟨(b, undef), rfl, rfl⟩
        · exact fun x _ h => TakeT.st (by (focus ((repeat (first | exact TakeT.tail | apply TakeT.cons | exact Take.head | apply Take.tail | apply TakeT.drop)); done))) h
      (apply Par.quiet _ [false, false, false, false, false, false, false, false, true, false, true]; exact rfl; decide +kernel; exact rfl; intro R; refine ⟨_, (by repeat constructor), ?_⟩;
           (first | (apply EvW.move; exact rfl) | (apply EvW.assign; exact rfl) | (apply EvW.nilPtr; exact rfl) | (apply EvW.fieldAddr0; exact rfl; exact FldC.eq) | (apply EvW.fieldAddr; exact rfl; exact FldC.eq) | (apply EvW.load; exact rfl; exact ScalC.eq; (focus ((repeat constructor); done)); exact rfl) | (apply EvW.ldSeen; exact rfl; exact ScalC.eq; assumption; (first | exact rfl | assumption)) | (apply EvW.ldFld; exact rfl; exact ScalC.eq; assumption; exact fun _ => rfl; omega; exact rfl; exact inferInstance) | (apply EvW.lenL; exact rfl; exact UndC.eq) | (apply EvW.cmpT; exact rfl; exact rfl; exact rfl; omega) | (apply EvW.cmpF; exact rfl; exact rfl; exact rfl; omega) | (apply EvW.cmp; exact rfl; exact rfl; exact rfl) | (apply EvW.arN; exact rfl; exact rfl; exact rfl; refine i64_in ?_ ?_ <;> omega) | (apply EvW.ar; exact rfl; exact rfl; exact rfl) | (apply EvW.loadAgg; exact rfl; exact AggC.eq; exact SzC.eq; (focus ((repeat constructor); done)); (focus ((repeat (first | exact SubL.nil | apply SubL.cons | apply SubL.succ)); done))) | (apply EvW.makeFunc; exact rfl) | (apply EvW.ldStr; exact rfl; exact ScalC.eq; assumption; omega) | (apply EvW.ldStrOwn; exact rfl; exact ScalC.eq; (focus ((repeat constructor); done)); omega) | (apply EvW.lenRow; exact rfl; exact UndC.eq; assumption) | (apply EvW.lenOwn; exact rfl; exact UndC.eq; (focus ((repeat constructor); done))) | (apply EvW.idxRow; exact rfl; exact rfl; exact UndC.eq; exact SzC.eq; assumption; omega; omega) | (apply EvW.idxOwn; exact rfl; exact rfl; exact UndC.eq; exact SzC.eq; (focus ((repeat constructor); done)); omega; omega) | (apply EvW.ldInt; exact rfl; exact ScalC.eq; assumption; omega) | (apply EvW.ldIntOwn; exact rfl; exact ScalC.eq; (focus ((repeat constructor); done)); omega) | (apply EvW.fldRow; exact rfl; exact FldC.eq; assumption; omega) | (apply EvW.fldOwn; exact rfl; exact FldC.eq; (focus ((repeat constructor); done)); omega) | (apply EvW.nilElemOwn; exact rfl; (focus ((repeat constructor); done)); omega) | (apply EvW.nilElemRow; exact rfl; assumption; omega) | (apply EvW.ldFldOwn; exact rfl; exact ScalC.eq; (focus ((repeat constructor); done)); exact fun _ => rfl; omega; exact rfl; exact inferInstance) | (apply EvW.lookup; exact rfl; exact rfl; exact UndC.eq; exact UndC.eq; exact ZvC.eq; (focus ((repeat constructor); done))) | (apply EvW.lookupOk; exact rfl; exact rfl; exact UndC.eq; exact UndC.eq; exact ZvC.eq; (focus ((repeat constructor); done))) | (apply EvW.lookupT; exact rfl; exact rfl; exact UndC.eq; exact UndC.eq; exact ZvC.eq; (focus ((repeat constructor); done)))))
      (apply Par.quiet _ [false, false, false, false, false, false, false, false, true, false, true]; exact rfl; decide +kernel; exact rfl; intro R; refine ⟨_, (by repeat constructor), ?_⟩;
           (first | (apply EvW.move; exact rfl) | (apply EvW.assign; exact rfl) | (apply EvW.nilPtr; exact rfl) | (apply EvW.fieldAddr0; exact rfl; exact FldC.eq) | (apply EvW.fieldAddr; exact rfl; exact FldC.eq) | (apply EvW.load; exact rfl; exact ScalC.eq; (focus ((repeat constructor); done)); exact rfl) | (apply EvW.ldSeen; exact rfl; exact ScalC.eq; assumption; (first | exact rfl | assumption)) | (apply EvW.ldFld; exact rfl; exact ScalC.eq; assumption; exact fun _ => rfl; omega; exact rfl; exact inferInstance) | (apply EvW.lenL; exact rfl; exact UndC.eq) | (apply EvW.cmpT; exact rfl; exact rfl; exact rfl; omega) | (apply EvW.cmpF; exact rfl; exact rfl; exact rfl; omega) | (apply EvW.cmp; exact rfl; exact rfl; exact rfl) | (apply EvW.arN; exact rfl; exact rfl; exact rfl; refine i64_in ?_ ?_ <;> omega) | (apply EvW.ar; exact rfl; exact rfl; exact rfl) | (apply EvW.loadAgg; exact rfl; exact AggC.eq; exact SzC.eq; (focus ((repeat constructor); done)); (focus ((repeat (first | exact SubL.nil | apply SubL.cons | apply SubL.succ)); done))) | (apply EvW.makeFunc; exact rfl) | (apply EvW.ldStr; exact rfl; exact ScalC.eq; assumption; omega) | (apply EvW.ldStrOwn; exact rfl; exact ScalC.eq; (focus ((repeat constructor); done)); omega) | (apply EvW.lenRow; exact rfl; exact UndC.eq; assumption) | (apply EvW.lenOwn; exact rfl; exact UndC.eq; (focus ((repeat constructor); done))) | (apply EvW.idxRow; exact rfl; exact rfl; exact UndC.eq; exact SzC.eq; assumption; omega; omega) | (apply EvW.idxOwn; exact rfl; exact rfl; exact UndC.eq; exact SzC.eq; (focus ((repeat constructor); done)); omega; omega) | (apply EvW.ldInt; exact rfl; exact ScalC.eq; assumption; omega) | (apply EvW.ldIntOwn; exact rfl; exact ScalC.eq; (focus ((repeat constructor); done)); omega) | (apply EvW.fldRow; exact rfl; exact FldC.eq; assumption; omega) | (apply EvW.fldOwn; exact rfl; exact FldC.eq; (focus ((repeat constructor); done)); omega) | (apply EvW.nilElemOwn; exact rfl; (focus ((repeat constructor); done)); omega) | (apply EvW.nilElemRow; exact rfl; assumption; omega) | (apply EvW.ldFldOwn; exact rfl; exact ScalC.eq; (focus ((repeat constructor); done)); exact fun _ => rfl; omega; exact rfl; exact inferInstance) | (apply EvW.lookup; exact rfl; exact rfl; exact UndC.eq; exact UndC.eq; exact ZvC.eq; (focus ((repeat constructor); done))) | (apply EvW.lookupOk; exact rfl; exact rfl; exact UndC.eq; exact UndC.eq; exact ZvC.eq; (focus ((repeat constructor); done))) | (apply EvW.lookupT; exact rfl; exact rfl; exact UndC.eq; exact UndC.eq; exact ZvC.eq; (focus ((repeat constructor); done)))))
      apply Par.new _ [false, false, false, false, false, true, false, false, false, false, false] [false, false, false, false, false, false, true, true, false, false, false] [false, true, false, true, false, false, false, false, true, false, true]
      · exact rfl
      · exact rfl
      · decide +kernel
      · intro R
        refine ⟨_, _, _, (by repeat constructor), (by repeat constructor), (fun x => (by repeat constructor)), ?_⟩
        apply NewW.callA ([sepL (((ofZ zz t.1 (c 6).1)).map wz)]) (fun x => [.own 9 1 (x.2) (inO q t.2).length ((inO q t.2).map str), sepL ((((ofZ zz t.1 (c 6).1).set (ixW sv.1 t.1) (inW q t.2, ((ofZ zz t.1 (c 6).1).getD (ixW sv.1 t.1) default).2))).map wz)])
        · exact rfl
        · exact fun w => Try.call24 _ w
        · (focus ((repeat constructor); done))
        · exact fun w1 S1 hS1 hs1 ho1 => (by have h := in_all (ofZ zz t.1 (c 6).1) (ixW sv.1 t.1) t.2 w1 S1 hS1 (hjb _) htl (by rw [hqb]; omega); rw [hqb] at h; exact h)
        · rintro _ _ rfl; exact ⟨(0, _), rfl, rfl⟩
        · exact fun x _ h => TakeT.st (by (focus ((repeat (first | exact TakeT.tail | apply TakeT.cons | exact Take.head | apply Take.tail | apply TakeT.drop)); done))) h
      apply Par.eff _ [false, false, false, false, false, false, false, false, true, false, false] [false, false, false, false, false, false, false, false, false, true, false] [false, true, false, true, false, false, true, true, false, false, true]
      · exact rfl
      · exact rfl
      · decide +kernel
      · intro R
        refine ⟨_, _, _, (by repeat constructor), (by repeat constructor), (by repeat constructor), ?_⟩
        (apply EffW.callTV (A1 := [outH ob sv.2]); exact rfl; exact rfl; exact fun w => Try.call20 _ w; (focus ((repeat constructor); done)); exact fun w1 S1 hS1 hs1 ho1 => add_spec ob sv.2 t.1 (c 9).2 (inO q t.2) w1 S1 hS1 (ho1 (.own 9 1 ((c 9).2) (inO q t.2).length ((inO q t.2).map str)) _ (by repeat constructor)).own (by omega); exact fun _ _ h => h; exact fun _ h => TakeT.st (by (focus ((repeat (first | exact TakeT.tail | apply TakeT.cons | exact Take.head | apply Take.tail | apply TakeT.drop)); done))) h)
      exact Par.nil
    · repeat (first | exact AllN.nil | (apply AllN.cons; (intro c x; (repeat (first | exact IndA.nil | (apply IndA.skip; decide +kernel) | apply IndA.same))))) 
    · repeat (first | exact AllN.nil | (apply AllN.cons; (intro c x; (repeat (first | exact IndT.nil | (apply IndT.skip; decide +kernel) | apply IndT.same))))) 
    · exact fun _ => rfl
    intro c
    refine ⟨_, (by repeat constructor), ?_⟩
    apply WE.writ
    · (focus ((repeat (first | exact Writ.nil | apply Writ.some | apply Writ.none)); done))
    generalize (c 6).1 = b6
    generalize (c 9).2 = vr
    have hkv2 := kv_set (ofZ zz t.1 b6) (ixW sv.1 t.1) (inW q t.2) _ (hjb b6) (by rw [hqb]; unfold inW; split; rfl; split; rfl; rfl) rfl
    have hnx : passF xs (l.take (i + 1)) = ((ofF sv.1 t.1).set (ixW sv.1 t.1) (inW q t.2), sv.2 ++ telsOf t.1 (inO q t.2)) := by rw [hstep, hs1]
    have hfst : ((ofZ zz t.1 b6).set (ixW sv.1 t.1) (inW q t.2, ((ofZ zz t.1 b6).getD (ixW sv.1 t.1) default).2)).map (·.1) = (ofF sv.1 t.1).set (ixW sv.1 t.1) (inW q t.2) := by
      rw [List.map_set, ofZ_fst, hzz]
    rw [← hkv2]
    generalize (ofZ zz t.1 b6).set (ixW sv.1 t.1) (inW q t.2, ((ofZ zz t.1 b6).getD (ixW sv.1 t.1) default).2) = z3 at hfst
    repeat first
      | (apply WL.q; exact rfl; exact rfl; exact rfl; (first | (apply EvW.move; exact rfl) | (apply EvW.assign; exact rfl) | (apply EvW.nilPtr; exact rfl) | (apply EvW.fieldAddr0; exact rfl; exact FldC.eq) | (apply EvW.fieldAddr; exact rfl; exact FldC.eq) | (apply EvW.load; exact rfl; exact ScalC.eq; (focus ((repeat constructor); done)); exact rfl) | (apply EvW.ldSeen; exact rfl; exact ScalC.eq; assumption; (first | exact rfl | assumption)) | (apply EvW.ldFld; exact rfl; exact ScalC.eq; assumption; exact fun _ => rfl; omega; exact rfl; exact inferInstance) | (apply EvW.lenL; exact rfl; exact UndC.eq) | (apply EvW.cmpT; exact rfl; exact rfl; exact rfl; omega) | (apply EvW.cmpF; exact rfl; exact rfl; exact rfl; omega) | (apply EvW.cmp; exact rfl; exact rfl; exact rfl) | (apply EvW.arN; exact rfl; exact rfl; exact rfl; refine i64_in ?_ ?_ <;> omega) | (apply EvW.ar; exact rfl; exact rfl; exact rfl) | (apply EvW.loadAgg; exact rfl; exact AggC.eq; exact SzC.eq; (focus ((repeat constructor); done)); (focus ((repeat (first | exact SubL.nil | apply SubL.cons | apply SubL.succ)); done))) | (apply EvW.makeFunc; exact rfl) | (apply EvW.ldStr; exact rfl; exact ScalC.eq; assumption; omega) | (apply EvW.ldStrOwn; exact rfl; exact ScalC.eq; (focus ((repeat constructor); done)); omega) | (apply EvW.lenRow; exact rfl; exact UndC.eq; assumption) | (apply EvW.lenOwn; exact rfl; exact UndC.eq; (focus ((repeat constructor); done))) | (apply EvW.idxRow; exact rfl; exact rfl; exact UndC.eq; exact SzC.eq; assumption; omega; omega) | (apply EvW.idxOwn; exact rfl; exact rfl; exact UndC.eq; exact SzC.eq; (focus ((repeat constructor); done)); omega; omega) | (apply EvW.ldInt; exact rfl; exact ScalC.eq; assumption; omega) | (apply EvW.ldIntOwn; exact rfl; exact ScalC.eq; (focus ((repeat constructor); done)); omega) | (apply EvW.fldRow; exact rfl; exact FldC.eq; assumption; omega) | (apply EvW.fldOwn; exact rfl; exact FldC.eq; (focus ((repeat constructor); done)); omega) | (apply EvW.nilElemOwn; exact rfl; (focus ((repeat constructor); done)); omega) | (apply EvW.nilElemRow; exact rfl; assumption; omega) | (apply EvW.ldFldOwn; exact rfl; exact ScalC.eq; (focus ((repeat constructor); done)); exact fun _ => rfl; omega; exact rfl; exact inferInstance) | (apply EvW.lookup; exact rfl; exact rfl; exact UndC.eq; exact UndC.eq; exact ZvC.eq; (focus ((repeat constructor); done))) | (apply EvW.lookupOk; exact rfl; exact rfl; exact UndC.eq; exact UndC.eq; exact ZvC.eq; (focus ((repeat constructor); done))) | (apply EvW.lookupT; exact rfl; exact rfl; exact UndC.eq; exact UndC.eq; exact ZvC.eq; (focus ((repeat constructor); done)))))
      | refine WC.seq ?_ | refine WC.region ?_ | refine WL.nil ?_ | refine WE.next ?_ | refine WC.block ?_ | refine WC.skip ?_ | refine WC.exit ?_ | refine WE.pass ?_ | refine WE.hit ?_ | refine WE.miss rfl ?_ | refine WE.out ?_ | refine WC.condT rfl ?_ | refine WC.condF rfl ?_ | refine WC.ret ?_ | refine WE.passRet ?_ | refine WE.outRet ?_ | refine WL.wanted rfl rfl rfl ?_ | (apply WL.store; exact rfl; exact rfl; (first | assumption | exact rfl); exact SzC.eq; (first | assumption | exact rfl); (focus ((repeat constructor); done)))
    exact WE.again (s := (i, zz)) ((i + 1, z3)) ⟨by simp only []; omega, by rw [hfst, hnx]⟩ (by (focus ((repeat (first | exact trivial | (refine ⟨rfl, ?_⟩))); done))) (fun _ h => (by (try simp only []); rw [hnx]; exact h.keep (by repeat constructor))) (by (try simp only []); omega)
  · obtain rfl : i = l.length := by omega
    rw [List.take_length] at hzz ⊢
    refine WC.exH (f := fun v : Value => sepL [.blk ob #[v] 28, .own 34 2 (v) ((passF xs l).2).length (((passF xs l).2).flatMap telC)]) (by repeat constructor) fun vo => ?_
    refine WC.unpack (L := [.blk ob #[vo] 28, .own 34 2 (vo) ((passF xs l).2).length (((passF xs l).2).flatMap telC)]) .head rfl ?_
    repeat first
      | (apply WL.q; exact rfl; exact rfl; exact rfl; (first | (apply EvW.move; exact rfl) | (apply EvW.assign; exact rfl) | (apply EvW.nilPtr; exact rfl) | (apply EvW.fieldAddr0; exact rfl; exact FldC.eq) | (apply EvW.fieldAddr; exact rfl; exact FldC.eq) | (apply EvW.load; exact rfl; exact ScalC.eq; (focus ((repeat constructor); done)); exact rfl) | (apply EvW.ldSeen; exact rfl; exact ScalC.eq; assumption; (first | exact rfl | assumption)) | (apply EvW.ldFld; exact rfl; exact ScalC.eq; assumption; exact fun _ => rfl; omega; exact rfl; exact inferInstance) | (apply EvW.lenL; exact rfl; exact UndC.eq) | (apply EvW.cmpT; exact rfl; exact rfl; exact rfl; omega) | (apply EvW.cmpF; exact rfl; exact rfl; exact rfl; omega) | (apply EvW.cmp; exact rfl; exact rfl; exact rfl) | (apply EvW.arN; exact rfl; exact rfl; exact rfl; refine i64_in ?_ ?_ <;> omega) | (apply EvW.ar; exact rfl; exact rfl; exact rfl) | (apply EvW.loadAgg; exact rfl; exact AggC.eq; exact SzC.eq; (focus ((repeat constructor); done)); (focus ((repeat (first | exact SubL.nil | apply SubL.cons | apply SubL.succ)); done))) | (apply EvW.makeFunc; exact rfl) | (apply EvW.ldStr; exact rfl; exact ScalC.eq; assumption; omega) | (apply EvW.ldStrOwn; exact rfl; exact ScalC.eq; (focus ((repeat constructor); done)); omega) | (apply EvW.lenRow; exact rfl; exact UndC.eq; assumption) | (apply EvW.lenOwn; exact rfl; exact UndC.eq; (focus ((repeat constructor); done))) | (apply EvW.idxRow; exact rfl; exact rfl; exact UndC.eq; exact SzC.eq; assumption; omega; omega) | (apply EvW.idxOwn; exact rfl; exact rfl; exact UndC.eq; exact SzC.eq; (focus ((repeat constructor); done)); omega; omega) | (apply EvW.ldInt; exact rfl; exact ScalC.eq; assumption; omega) | (apply EvW.ldIntOwn; exact rfl; exact ScalC.eq; (focus ((repeat constructor); done)); omega) | (apply EvW.fldRow; exact rfl; exact FldC.eq; assumption; omega) | (apply EvW.fldOwn; exact rfl; exact FldC.eq; (focus ((repeat constructor); done)); omega) | (apply EvW.nilElemOwn; exact rfl; (focus ((repeat constructor); done)); omega) | (apply EvW.nilElemRow; exact rfl; assumption; omega) | (apply EvW.ldFldOwn; exact rfl; exact ScalC.eq; (focus ((repeat constructor); done)); exact fun _ => rfl; omega; exact rfl; exact inferInstance) | (apply EvW.lookup; exact rfl; exact rfl; exact UndC.eq; exact UndC.eq; exact ZvC.eq; (focus ((repeat constructor); done))) | (apply EvW.lookupOk; exact rfl; exact rfl; exact UndC.eq; exact UndC.eq; exact ZvC.eq; (focus ((repeat constructor); done))) | (apply EvW.lookupT; exact rfl; exact rfl; exact UndC.eq; exact UndC.eq; exact ZvC.eq; (focus ((repeat constructor); done)))))
      | refine WC.seq ?_ | refine WC.region ?_ | refine WL.nil ?_ | refine WE.next ?_ | refine WC.block ?_ | refine WC.skip ?_ | refine WC.exit ?_ | refine WE.pass ?_ | refine WE.hit ?_ | refine WE.miss rfl ?_ | refine WE.out ?_ | refine WC.condT rfl ?_ | refine WC.condF rfl ?_ | refine WC.ret ?_ | refine WE.passRet ?_ | refine WE.outRet ?_ | refine WL.wanted rfl rfl rfl ?_ | (apply WL.store; exact rfl; exact rfl; (first | assumption | exact rfl); exact SzC.eq; (first | assumption | exact rfl); (focus ((repeat constructor); done)))
    refine WE.shutW (mb := mb) (zs := zz) (by repeat constructor) ?_
    rw [hzz]
    refine WE.keep (xs := [.own 34 2 (vo) ((passF xs l).2).length (((passF xs l).2).flatMap telC), wiresH wb (passF xs l).1]) (by repeat constructor) ?_
    refine WE.ret1 rfl rfl ?_
    rfl
end Go.Proofs.Ytoaajdmacngnjaa
namespace Go.Proofs.Ytoaajdmacngnjaa
open Go.RowKit Go.BK
theorem sortI_one (a : Int) : sortI [a] = [a] := List.perm_singleton.1 (sortI_perm [a])
theorem ixW_one (q : Wr) : ixW [q] q.p = 0 := by unfold ixW; rw [if_pos rfl]
theorem ofF_one (q : Wr) : ofF [q] q.p = [q] := by unfold ofF; rw [ixW_one, if_pos (by simp)]
theorem set_nil (p m : Int) (h : 0 ≤ m ∧ m ≤ 5) : setF [] p m = [⟨p, m, [], []⟩] := by
  unfold setF
  rw [if_neg (by omega)]
  rfl
theorem set_one (q : Wr) (m : Int) (h : 0 ≤ m ∧ m ≤ 5) : setF [q] q.p m = [⟨q.p, m, q.due, q.held⟩] := by
  unfold setF updW
  rw [if_neg (by omega), ofF_one, ixW_one]
  rfl
theorem inW_p (q : Wr) (s : Txt) : (inW q s).p = q.p := by
  unfold inW
  split
  · rfl
  · split <;> rfl
theorem inW_mode (q : Wr) (s : Txt) : (inW q s).mode = q.mode := by
  unfold inW
  split
  · rfl
  · split <;> rfl
theorem inO_mode (q q' : Wr) (s : Txt) (h : q.mode = q'.mode) : inO q s = inO q' s := by unfold inO; rw [h]
theorem step_one (q : Wr) (o : List Tel) (s : Txt) : stepF ([q], o) (q.p, s) = ([inW q s], o ++ telsOf q.p (inO q s)) := by
  unfold stepF
  dsimp only
  rw [ofF_one, ixW_one]
  rfl
def inA (q : Wr) (ts : List Txt) : Wr := ts.foldl inW (readyW q)
theorem telsOf_app (p : Int) (a b : List Txt) : telsOf p (a ++ b) = telsOf p a ++ telsOf p b := List.map_append
theorem pass1 (q : Wr) (ts : List Txt) : passF [q] (telsOf q.p ts) = ([inA q ts], telsOf q.p (readyO q ++ ts.flatMap (inO q))) := by
  have e : outR [q] (sortI ([q].map (·.p))) = telsOf q.p (readyO q) := by
    rw [List.map_singleton, sortI_one]
    unfold outR getW
    rw [List.flatMap_singleton, ixW_one]
    rfl
  unfold passF
  rw [e, telsOf_app]
  have key : ∀ (ts : List Txt) (r : Wr) (o : List Tel), r.p = q.p → r.mode = q.mode → (telsOf q.p ts).foldl stepF ([r], o) = ([ts.foldl inW r], o ++ telsOf q.p (ts.flatMap (inO q))) := by
    intro ts
    induction ts with
    | nil => intro r o _ _; show ([r], o) = ([r], o ++ []); rw [List.append_nil]
    | cons s ts ih =>
      intro r o hp hm
      show ((telsOf q.p ts).foldl stepF (stepF ([r], o) (q.p, s))) = _
      rw [← hp, step_one, hp, ih (inW r s) _ (by rw [inW_p, hp]) (by rw [inW_mode, hm]), List.flatMap_cons, telsOf_app, List.append_assoc, inO_mode r q s hm]
      rfl
  exact key ts (readyW q) _ rfl rfl
theorem okx_one {q : Wr} (h : (Lit.int .i64 q.p).wf = true) : Okx [q] := ⟨by simp, fun r hr => by rw [List.mem_singleton] at hr; subst hr; exact h, by show 1 ≤ _; decide⟩
set_option maxHeartbeats 1000000 in
theorem lives20_spec  (w : World) (S : BSet) (hS : (sepL []).sat S w)  :
    Tri Try.prog 9 #[] w S fun u A => u = .bool true ∧ A = [] := by
  refine Tri.enter (l := []) Try.func9 rfl Try.ntmps9 rfl [] (subA rfl) hS ?_
  repeat first
    | (apply WL.q; exact rfl; exact rfl; exact rfl; (first | (apply EvW.move; exact rfl) | (apply EvW.assign; exact rfl) | (apply EvW.fieldAddr0; exact rfl; exact FldC.eq) | (apply EvW.fieldAddr; exact rfl; exact FldC.eq) | (apply EvW.load; exact rfl; exact ScalC.eq; (focus ((repeat constructor); done)); exact rfl) | (apply EvW.ldSeen; exact rfl; exact ScalC.eq; assumption; (first | exact rfl | assumption)) | (apply EvW.ldFld; exact rfl; exact ScalC.eq; assumption; exact fun _ => rfl; omega; exact rfl; exact inferInstance) | (apply EvW.lenL; exact rfl; exact UndC.eq) | (apply EvW.cmpT; exact rfl; exact rfl; exact rfl; omega) | (apply EvW.cmpF; exact rfl; exact rfl; exact rfl; omega) | (apply EvW.cmp; exact rfl; exact rfl; exact rfl) | (apply EvW.pickT; exact rfl; exact rfl) | (apply EvW.pickF; exact rfl; exact rfl) | (apply EvW.seqS; exact rfl; exact rfl) | (apply EvW.seq; exact rfl; exact rfl) | (apply EvW.build; exact PlC.eq; exact ZvC.eq; exact rfl; exact rfl; (focus ((repeat (first | exact Fills.nil | (apply Fills.cons; exact rfl; (first | assumption | exact rfl); exact rfl) | exact SetMany.nil | apply SetMany.cons | apply SetMany.succ)); done))) | (apply EvW.peqN; exact rfl; exact rfl; exact UndC.eq) | (apply EvW.ldStr; exact rfl; exact ScalC.eq; assumption; omega) | (apply EvW.ldStrOwn; exact rfl; exact ScalC.eq; (focus ((repeat constructor); done)); omega) | (apply EvW.lenRow; exact rfl; exact UndC.eq; assumption) | (apply EvW.lenOwn; exact rfl; exact UndC.eq; (focus ((repeat constructor); done))) | (apply EvW.idxRow; exact rfl; exact rfl; exact UndC.eq; exact SzC.eq; assumption; omega; omega) | (apply EvW.idxOwn; exact rfl; exact rfl; exact UndC.eq; exact SzC.eq; (focus ((repeat constructor); done)); omega; omega) | (apply EvW.fldRow; exact rfl; exact FldC.eq; assumption; omega) | (apply EvW.fldOwn; exact rfl; exact FldC.eq; (focus ((repeat constructor); done)); omega) | (apply EvW.ldFldOwn; exact rfl; exact ScalC.eq; (focus ((repeat constructor); done)); exact fun _ => rfl; omega; exact rfl; exact inferInstance)))
    | refine WC.seq ?_ | refine WC.region ?_ | refine WL.nil ?_ | refine WE.next ?_ | refine WC.skip ?_ | refine WC.exit ?_ | refine WE.pass ?_ | refine WE.hit ?_ | refine WE.miss rfl ?_ | refine WE.out ?_ | refine WC.condT rfl ?_ | refine WC.condF rfl ?_ | refine WC.ret ?_ | refine WE.passRet ?_ | refine WE.outRet ?_ | refine WL.wanted rfl rfl rfl ?_ | refine WL.unwanted rfl rfl rfl rfl ?_ | refine WL.unwantedU rfl rfl rfl rfl ?_ | refine WL.unwanted0 rfl rfl rfl ?_
  try refine WL.wanted rfl rfl rfl ?_
  apply WL.callA ([])
  · exact rfl
  · exact rfl
  · exact fun w => Try.call10 _ w
  · (focus ((repeat constructor); done))
  · exact fun w1 S1 hS1 hs1 ho1 => wnew_spec w1 S1 hS1
  rintro _ _ ⟨wb, rfl, rfl⟩
  first | refine WL.app4 ?_ | refine WL.app3 ?_ | refine WL.app2 ?_ | refine WL.app1 ?_ | refine WL.app0 ?_ | skip
  repeat first
    | (apply WL.q; exact rfl; exact rfl; exact rfl; (first | (apply EvW.move; exact rfl) | (apply EvW.assign; exact rfl) | (apply EvW.fieldAddr0; exact rfl; exact FldC.eq) | (apply EvW.fieldAddr; exact rfl; exact FldC.eq) | (apply EvW.load; exact rfl; exact ScalC.eq; (focus ((repeat constructor); done)); exact rfl) | (apply EvW.ldSeen; exact rfl; exact ScalC.eq; assumption; (first | exact rfl | assumption)) | (apply EvW.ldFld; exact rfl; exact ScalC.eq; assumption; exact fun _ => rfl; omega; exact rfl; exact inferInstance) | (apply EvW.lenL; exact rfl; exact UndC.eq) | (apply EvW.cmpT; exact rfl; exact rfl; exact rfl; omega) | (apply EvW.cmpF; exact rfl; exact rfl; exact rfl; omega) | (apply EvW.cmp; exact rfl; exact rfl; exact rfl) | (apply EvW.pickT; exact rfl; exact rfl) | (apply EvW.pickF; exact rfl; exact rfl) | (apply EvW.seqS; exact rfl; exact rfl) | (apply EvW.seq; exact rfl; exact rfl) | (apply EvW.build; exact PlC.eq; exact ZvC.eq; exact rfl; exact rfl; (focus ((repeat (first | exact Fills.nil | (apply Fills.cons; exact rfl; (first | assumption | exact rfl); exact rfl) | exact SetMany.nil | apply SetMany.cons | apply SetMany.succ)); done))) | (apply EvW.peqN; exact rfl; exact rfl; exact UndC.eq) | (apply EvW.ldStr; exact rfl; exact ScalC.eq; assumption; omega) | (apply EvW.ldStrOwn; exact rfl; exact ScalC.eq; (focus ((repeat constructor); done)); omega) | (apply EvW.lenRow; exact rfl; exact UndC.eq; assumption) | (apply EvW.lenOwn; exact rfl; exact UndC.eq; (focus ((repeat constructor); done))) | (apply EvW.idxRow; exact rfl; exact rfl; exact UndC.eq; exact SzC.eq; assumption; omega; omega) | (apply EvW.idxOwn; exact rfl; exact rfl; exact UndC.eq; exact SzC.eq; (focus ((repeat constructor); done)); omega; omega) | (apply EvW.fldRow; exact rfl; exact FldC.eq; assumption; omega) | (apply EvW.fldOwn; exact rfl; exact FldC.eq; (focus ((repeat constructor); done)); omega) | (apply EvW.ldFldOwn; exact rfl; exact ScalC.eq; (focus ((repeat constructor); done)); exact fun _ => rfl; omega; exact rfl; exact inferInstance)))
    | refine WC.seq ?_ | refine WC.region ?_ | refine WL.nil ?_ | refine WE.next ?_ | refine WC.skip ?_ | refine WC.exit ?_ | refine WE.pass ?_ | refine WE.hit ?_ | refine WE.miss rfl ?_ | refine WE.out ?_ | refine WC.condT rfl ?_ | refine WC.condF rfl ?_ | refine WC.ret ?_ | refine WE.passRet ?_ | refine WE.outRet ?_ | refine WL.wanted rfl rfl rfl ?_ | refine WL.unwanted rfl rfl rfl rfl ?_ | refine WL.unwantedU rfl rfl rfl rfl ?_ | refine WL.unwanted0 rfl rfl rfl ?_
  try refine WL.wanted rfl rfl rfl ?_
  apply WL.callA ([wiresH wb []])
  · exact rfl
  · exact rfl
  · exact fun w => Try.call12 _ w
  · (focus ((repeat constructor); done))
  · exact fun w1 S1 hS1 hs1 ho1 => set_spec wb [] 1 5 w1 S1 hS1
  rintro _ _ ⟨rfl, rfl⟩
  first | refine WL.app4 ?_ | refine WL.app3 ?_ | refine WL.app2 ?_ | refine WL.app1 ?_ | refine WL.app0 ?_ | skip
  rw [if_neg (by decide), set_nil 1 5 (by decide)]
  repeat first
    | (apply WL.q; exact rfl; exact rfl; exact rfl; (first | (apply EvW.move; exact rfl) | (apply EvW.assign; exact rfl) | (apply EvW.fieldAddr0; exact rfl; exact FldC.eq) | (apply EvW.fieldAddr; exact rfl; exact FldC.eq) | (apply EvW.load; exact rfl; exact ScalC.eq; (focus ((repeat constructor); done)); exact rfl) | (apply EvW.ldSeen; exact rfl; exact ScalC.eq; assumption; (first | exact rfl | assumption)) | (apply EvW.ldFld; exact rfl; exact ScalC.eq; assumption; exact fun _ => rfl; omega; exact rfl; exact inferInstance) | (apply EvW.lenL; exact rfl; exact UndC.eq) | (apply EvW.cmpT; exact rfl; exact rfl; exact rfl; omega) | (apply EvW.cmpF; exact rfl; exact rfl; exact rfl; omega) | (apply EvW.cmp; exact rfl; exact rfl; exact rfl) | (apply EvW.pickT; exact rfl; exact rfl) | (apply EvW.pickF; exact rfl; exact rfl) | (apply EvW.seqS; exact rfl; exact rfl) | (apply EvW.seq; exact rfl; exact rfl) | (apply EvW.build; exact PlC.eq; exact ZvC.eq; exact rfl; exact rfl; (focus ((repeat (first | exact Fills.nil | (apply Fills.cons; exact rfl; (first | assumption | exact rfl); exact rfl) | exact SetMany.nil | apply SetMany.cons | apply SetMany.succ)); done))) | (apply EvW.peqN; exact rfl; exact rfl; exact UndC.eq) | (apply EvW.ldStr; exact rfl; exact ScalC.eq; assumption; omega) | (apply EvW.ldStrOwn; exact rfl; exact ScalC.eq; (focus ((repeat constructor); done)); omega) | (apply EvW.lenRow; exact rfl; exact UndC.eq; assumption) | (apply EvW.lenOwn; exact rfl; exact UndC.eq; (focus ((repeat constructor); done))) | (apply EvW.idxRow; exact rfl; exact rfl; exact UndC.eq; exact SzC.eq; assumption; omega; omega) | (apply EvW.idxOwn; exact rfl; exact rfl; exact UndC.eq; exact SzC.eq; (focus ((repeat constructor); done)); omega; omega) | (apply EvW.fldRow; exact rfl; exact FldC.eq; assumption; omega) | (apply EvW.fldOwn; exact rfl; exact FldC.eq; (focus ((repeat constructor); done)); omega) | (apply EvW.ldFldOwn; exact rfl; exact ScalC.eq; (focus ((repeat constructor); done)); exact fun _ => rfl; omega; exact rfl; exact inferInstance)))
    | refine WC.seq ?_ | refine WC.region ?_ | refine WL.nil ?_ | refine WE.next ?_ | refine WC.skip ?_ | refine WC.exit ?_ | refine WE.pass ?_ | refine WE.hit ?_ | refine WE.miss rfl ?_ | refine WE.out ?_ | refine WC.condT rfl ?_ | refine WC.condF rfl ?_ | refine WC.ret ?_ | refine WE.passRet ?_ | refine WE.outRet ?_ | refine WL.wanted rfl rfl rfl ?_ | refine WL.unwanted rfl rfl rfl rfl ?_ | refine WL.unwantedU rfl rfl rfl rfl ?_ | refine WL.unwanted0 rfl rfl rfl ?_
  try refine WL.wanted rfl rfl rfl ?_
  (apply WL.buildSlice; exact rfl; exact UndC.eq; exact SzC.eq; exact ZvC.eq; exact rfl; exact rfl; exact rfl; ((focus ((repeat (first | exact Flat.nil | (apply Flat.one; (first | exact rfl | assumption)) | (apply Flat.cons; exact rfl; exact rfl))); done))); exact rfl; exact rfl; intro k0)
  repeat first
    | (apply WL.q; exact rfl; exact rfl; exact rfl; (first | (apply EvW.move; exact rfl) | (apply EvW.assign; exact rfl) | (apply EvW.fieldAddr0; exact rfl; exact FldC.eq) | (apply EvW.fieldAddr; exact rfl; exact FldC.eq) | (apply EvW.load; exact rfl; exact ScalC.eq; (focus ((repeat constructor); done)); exact rfl) | (apply EvW.ldSeen; exact rfl; exact ScalC.eq; assumption; (first | exact rfl | assumption)) | (apply EvW.ldFld; exact rfl; exact ScalC.eq; assumption; exact fun _ => rfl; omega; exact rfl; exact inferInstance) | (apply EvW.lenL; exact rfl; exact UndC.eq) | (apply EvW.cmpT; exact rfl; exact rfl; exact rfl; omega) | (apply EvW.cmpF; exact rfl; exact rfl; exact rfl; omega) | (apply EvW.cmp; exact rfl; exact rfl; exact rfl) | (apply EvW.pickT; exact rfl; exact rfl) | (apply EvW.pickF; exact rfl; exact rfl) | (apply EvW.seqS; exact rfl; exact rfl) | (apply EvW.seq; exact rfl; exact rfl) | (apply EvW.build; exact PlC.eq; exact ZvC.eq; exact rfl; exact rfl; (focus ((repeat (first | exact Fills.nil | (apply Fills.cons; exact rfl; (first | assumption | exact rfl); exact rfl) | exact SetMany.nil | apply SetMany.cons | apply SetMany.succ)); done))) | (apply EvW.peqN; exact rfl; exact rfl; exact UndC.eq) | (apply EvW.ldStr; exact rfl; exact ScalC.eq; assumption; omega) | (apply EvW.ldStrOwn; exact rfl; exact ScalC.eq; (focus ((repeat constructor); done)); omega) | (apply EvW.lenRow; exact rfl; exact UndC.eq; assumption) | (apply EvW.lenOwn; exact rfl; exact UndC.eq; (focus ((repeat constructor); done))) | (apply EvW.idxRow; exact rfl; exact rfl; exact UndC.eq; exact SzC.eq; assumption; omega; omega) | (apply EvW.idxOwn; exact rfl; exact rfl; exact UndC.eq; exact SzC.eq; (focus ((repeat constructor); done)); omega; omega) | (apply EvW.fldRow; exact rfl; exact FldC.eq; assumption; omega) | (apply EvW.fldOwn; exact rfl; exact FldC.eq; (focus ((repeat constructor); done)); omega) | (apply EvW.ldFldOwn; exact rfl; exact ScalC.eq; (focus ((repeat constructor); done)); exact fun _ => rfl; omega; exact rfl; exact inferInstance)))
    | refine WC.seq ?_ | refine WC.region ?_ | refine WL.nil ?_ | refine WE.next ?_ | refine WC.skip ?_ | refine WC.exit ?_ | refine WE.pass ?_ | refine WE.hit ?_ | refine WE.miss rfl ?_ | refine WE.out ?_ | refine WC.condT rfl ?_ | refine WC.condF rfl ?_ | refine WC.ret ?_ | refine WE.passRet ?_ | refine WE.outRet ?_ | refine WL.wanted rfl rfl rfl ?_ | refine WL.unwanted rfl rfl rfl rfl ?_ | refine WL.unwantedU rfl rfl rfl rfl ?_ | refine WL.unwanted0 rfl rfl rfl ?_
  try refine WL.wanted rfl rfl rfl ?_
  apply WL.callA ([wiresH wb [⟨1, 5, [], []⟩]])
  · exact rfl
  · exact rfl
  · exact fun w => Try.call14 _ w
  · (focus ((repeat constructor); done))
  · exact fun w1 S1 hS1 hs1 ho1 => pass_spec wb [⟨1, 5, [], []⟩] (.slice (some ⟨k0, 0, none⟩) 2 2) (telsOf 1 [[97], [98]]) w1 S1 hS1 ((ho1 (.blk k0 #[i64 1, str [97], i64 1, str [98]] 34) _ (by repeat constructor)).blkRow rfl (fun k u h => by simpa [telsOf, telC] using h) (by decide)) (okx_one (by decide)) (by decide) (fun t h => by simp [telsOf] at h; rcases h with rfl | rfl <;> decide)
  rintro _ _ rfl
  first | refine WL.app4 ?_ | refine WL.app3 ?_ | refine WL.app2 ?_ | refine WL.app1 ?_ | refine WL.app0 ?_ | skip
  rename_i v1
  rw [show passF [⟨1, 5, [], []⟩] (telsOf 1 [[97], [98]]) = ([⟨1, 5, [], [[97], [98]]⟩], []) from pass1 ⟨1, 5, [], []⟩ [[97], [98]]]
  dsimp only
  repeat first
    | (apply WL.q; exact rfl; exact rfl; exact rfl; (first | (apply EvW.move; exact rfl) | (apply EvW.assign; exact rfl) | (apply EvW.fieldAddr0; exact rfl; exact FldC.eq) | (apply EvW.fieldAddr; exact rfl; exact FldC.eq) | (apply EvW.load; exact rfl; exact ScalC.eq; (focus ((repeat constructor); done)); exact rfl) | (apply EvW.ldSeen; exact rfl; exact ScalC.eq; assumption; (first | exact rfl | assumption)) | (apply EvW.ldFld; exact rfl; exact ScalC.eq; assumption; exact fun _ => rfl; omega; exact rfl; exact inferInstance) | (apply EvW.lenL; exact rfl; exact UndC.eq) | (apply EvW.cmpT; exact rfl; exact rfl; exact rfl; omega) | (apply EvW.cmpF; exact rfl; exact rfl; exact rfl; omega) | (apply EvW.cmp; exact rfl; exact rfl; exact rfl) | (apply EvW.pickT; exact rfl; exact rfl) | (apply EvW.pickF; exact rfl; exact rfl) | (apply EvW.seqS; exact rfl; exact rfl) | (apply EvW.seq; exact rfl; exact rfl) | (apply EvW.build; exact PlC.eq; exact ZvC.eq; exact rfl; exact rfl; (focus ((repeat (first | exact Fills.nil | (apply Fills.cons; exact rfl; (first | assumption | exact rfl); exact rfl) | exact SetMany.nil | apply SetMany.cons | apply SetMany.succ)); done))) | (apply EvW.peqN; exact rfl; exact rfl; exact UndC.eq) | (apply EvW.ldStr; exact rfl; exact ScalC.eq; assumption; omega) | (apply EvW.ldStrOwn; exact rfl; exact ScalC.eq; (focus ((repeat constructor); done)); omega) | (apply EvW.lenRow; exact rfl; exact UndC.eq; assumption) | (apply EvW.lenOwn; exact rfl; exact UndC.eq; (focus ((repeat constructor); done))) | (apply EvW.idxRow; exact rfl; exact rfl; exact UndC.eq; exact SzC.eq; assumption; omega; omega) | (apply EvW.idxOwn; exact rfl; exact rfl; exact UndC.eq; exact SzC.eq; (focus ((repeat constructor); done)); omega; omega) | (apply EvW.fldRow; exact rfl; exact FldC.eq; assumption; omega) | (apply EvW.fldOwn; exact rfl; exact FldC.eq; (focus ((repeat constructor); done)); omega) | (apply EvW.ldFldOwn; exact rfl; exact ScalC.eq; (focus ((repeat constructor); done)); exact fun _ => rfl; omega; exact rfl; exact inferInstance)))
    | refine WC.seq ?_ | refine WC.region ?_ | refine WL.nil ?_ | refine WE.next ?_ | refine WC.skip ?_ | refine WC.exit ?_ | refine WE.pass ?_ | refine WE.hit ?_ | refine WE.miss rfl ?_ | refine WE.out ?_ | refine WC.condT rfl ?_ | refine WC.condF rfl ?_ | refine WC.ret ?_ | refine WE.passRet ?_ | refine WE.outRet ?_ | refine WL.wanted rfl rfl rfl ?_ | refine WL.unwanted rfl rfl rfl rfl ?_ | refine WL.unwantedU rfl rfl rfl rfl ?_ | refine WL.unwanted0 rfl rfl rfl ?_
  try refine WL.wanted rfl rfl rfl ?_
  apply WL.callA ([])
  · exact rfl
  · exact rfl
  · exact fun w => Try.call17 _ w
  · (focus ((repeat constructor); done))
  · exact fun w1 S1 hS1 hs1 ho1 => under_spec wb [⟨1, 5, [], [[97], [98]]⟩] w1 S1 hS1 (ho1 (wiresH wb [⟨1, 5, [], [[97], [98]]⟩]) _ (by repeat constructor)) (by decide) (by decide)
  rintro _ _ ⟨rfl, rfl⟩
  first | refine WL.app4 ?_ | refine WL.app3 ?_ | refine WL.app2 ?_ | refine WL.app1 ?_ | refine WL.app0 ?_ | skip
  rw [show (underF [⟨1, 5, [], [[97], [98]]⟩] : Int) = 2 from rfl]
  repeat first
    | (apply WL.q; exact rfl; exact rfl; exact rfl; (first | (apply EvW.move; exact rfl) | (apply EvW.assign; exact rfl) | (apply EvW.fieldAddr0; exact rfl; exact FldC.eq) | (apply EvW.fieldAddr; exact rfl; exact FldC.eq) | (apply EvW.load; exact rfl; exact ScalC.eq; (focus ((repeat constructor); done)); exact rfl) | (apply EvW.ldSeen; exact rfl; exact ScalC.eq; assumption; (first | exact rfl | assumption)) | (apply EvW.ldFld; exact rfl; exact ScalC.eq; assumption; exact fun _ => rfl; omega; exact rfl; exact inferInstance) | (apply EvW.lenL; exact rfl; exact UndC.eq) | (apply EvW.cmpT; exact rfl; exact rfl; exact rfl; omega) | (apply EvW.cmpF; exact rfl; exact rfl; exact rfl; omega) | (apply EvW.cmp; exact rfl; exact rfl; exact rfl) | (apply EvW.pickT; exact rfl; exact rfl) | (apply EvW.pickF; exact rfl; exact rfl) | (apply EvW.seqS; exact rfl; exact rfl) | (apply EvW.seq; exact rfl; exact rfl) | (apply EvW.build; exact PlC.eq; exact ZvC.eq; exact rfl; exact rfl; (focus ((repeat (first | exact Fills.nil | (apply Fills.cons; exact rfl; (first | assumption | exact rfl); exact rfl) | exact SetMany.nil | apply SetMany.cons | apply SetMany.succ)); done))) | (apply EvW.peqN; exact rfl; exact rfl; exact UndC.eq) | (apply EvW.ldStr; exact rfl; exact ScalC.eq; assumption; omega) | (apply EvW.ldStrOwn; exact rfl; exact ScalC.eq; (focus ((repeat constructor); done)); omega) | (apply EvW.lenRow; exact rfl; exact UndC.eq; assumption) | (apply EvW.lenOwn; exact rfl; exact UndC.eq; (focus ((repeat constructor); done))) | (apply EvW.idxRow; exact rfl; exact rfl; exact UndC.eq; exact SzC.eq; assumption; omega; omega) | (apply EvW.idxOwn; exact rfl; exact rfl; exact UndC.eq; exact SzC.eq; (focus ((repeat constructor); done)); omega; omega) | (apply EvW.fldRow; exact rfl; exact FldC.eq; assumption; omega) | (apply EvW.fldOwn; exact rfl; exact FldC.eq; (focus ((repeat constructor); done)); omega) | (apply EvW.ldFldOwn; exact rfl; exact ScalC.eq; (focus ((repeat constructor); done)); exact fun _ => rfl; omega; exact rfl; exact inferInstance)))
    | refine WC.seq ?_ | refine WC.region ?_ | refine WL.nil ?_ | refine WE.next ?_ | refine WC.skip ?_ | refine WC.exit ?_ | refine WE.pass ?_ | refine WE.hit ?_ | refine WE.miss rfl ?_ | refine WE.out ?_ | refine WC.condT rfl ?_ | refine WC.condF rfl ?_ | refine WC.ret ?_ | refine WE.passRet ?_ | refine WE.outRet ?_ | refine WL.wanted rfl rfl rfl ?_ | refine WL.unwanted rfl rfl rfl rfl ?_ | refine WL.unwantedU rfl rfl rfl rfl ?_ | refine WL.unwanted0 rfl rfl rfl ?_
  try refine WL.wanted rfl rfl rfl ?_
  apply WL.callA ([wiresH wb [⟨1, 5, [], [[97], [98]]⟩]])
  · exact rfl
  · exact rfl
  · exact fun w => Try.call12 _ w
  · (focus ((repeat constructor); done))
  · exact fun w1 S1 hS1 hs1 ho1 => set_spec wb [⟨1, 5, [], [[97], [98]]⟩] 1 0 w1 S1 hS1
  rintro _ _ ⟨rfl, rfl⟩
  first | refine WL.app4 ?_ | refine WL.app3 ?_ | refine WL.app2 ?_ | refine WL.app1 ?_ | refine WL.app0 ?_ | skip
  rw [if_neg (by decide), show setF [⟨1, 5, [], [[97], [98]]⟩] 1 0 = [⟨1, 0, [], [[97], [98]]⟩] from set_one ⟨1, 5, [], [[97], [98]]⟩ 0 (by decide)]
  repeat first
    | (apply WL.q; exact rfl; exact rfl; exact rfl; (first | (apply EvW.move; exact rfl) | (apply EvW.assign; exact rfl) | (apply EvW.fieldAddr0; exact rfl; exact FldC.eq) | (apply EvW.fieldAddr; exact rfl; exact FldC.eq) | (apply EvW.load; exact rfl; exact ScalC.eq; (focus ((repeat constructor); done)); exact rfl) | (apply EvW.ldSeen; exact rfl; exact ScalC.eq; assumption; (first | exact rfl | assumption)) | (apply EvW.ldFld; exact rfl; exact ScalC.eq; assumption; exact fun _ => rfl; omega; exact rfl; exact inferInstance) | (apply EvW.lenL; exact rfl; exact UndC.eq) | (apply EvW.cmpT; exact rfl; exact rfl; exact rfl; omega) | (apply EvW.cmpF; exact rfl; exact rfl; exact rfl; omega) | (apply EvW.cmp; exact rfl; exact rfl; exact rfl) | (apply EvW.pickT; exact rfl; exact rfl) | (apply EvW.pickF; exact rfl; exact rfl) | (apply EvW.seqS; exact rfl; exact rfl) | (apply EvW.seq; exact rfl; exact rfl) | (apply EvW.build; exact PlC.eq; exact ZvC.eq; exact rfl; exact rfl; (focus ((repeat (first | exact Fills.nil | (apply Fills.cons; exact rfl; (first | assumption | exact rfl); exact rfl) | exact SetMany.nil | apply SetMany.cons | apply SetMany.succ)); done))) | (apply EvW.peqN; exact rfl; exact rfl; exact UndC.eq) | (apply EvW.ldStr; exact rfl; exact ScalC.eq; assumption; omega) | (apply EvW.ldStrOwn; exact rfl; exact ScalC.eq; (focus ((repeat constructor); done)); omega) | (apply EvW.lenRow; exact rfl; exact UndC.eq; assumption) | (apply EvW.lenOwn; exact rfl; exact UndC.eq; (focus ((repeat constructor); done))) | (apply EvW.idxRow; exact rfl; exact rfl; exact UndC.eq; exact SzC.eq; assumption; omega; omega) | (apply EvW.idxOwn; exact rfl; exact rfl; exact UndC.eq; exact SzC.eq; (focus ((repeat constructor); done)); omega; omega) | (apply EvW.fldRow; exact rfl; exact FldC.eq; assumption; omega) | (apply EvW.fldOwn; exact rfl; exact FldC.eq; (focus ((repeat constructor); done)); omega) | (apply EvW.ldFldOwn; exact rfl; exact ScalC.eq; (focus ((repeat constructor); done)); exact fun _ => rfl; omega; exact rfl; exact inferInstance)))
    | refine WC.seq ?_ | refine WC.region ?_ | refine WL.nil ?_ | refine WE.next ?_ | refine WC.skip ?_ | refine WC.exit ?_ | refine WE.pass ?_ | refine WE.hit ?_ | refine WE.miss rfl ?_ | refine WE.out ?_ | refine WC.condT rfl ?_ | refine WC.condF rfl ?_ | refine WC.ret ?_ | refine WE.passRet ?_ | refine WE.outRet ?_ | refine WL.wanted rfl rfl rfl ?_ | refine WL.unwanted rfl rfl rfl rfl ?_ | refine WL.unwantedU rfl rfl rfl rfl ?_ | refine WL.unwanted0 rfl rfl rfl ?_
  try refine WL.wanted rfl rfl rfl ?_
  (apply WL.buildSlice; exact rfl; exact UndC.eq; exact SzC.eq; exact ZvC.eq; exact rfl; exact rfl; exact rfl; ((focus ((repeat (first | exact Flat.nil | (apply Flat.one; (first | exact rfl | assumption)) | (apply Flat.cons; exact rfl; exact rfl))); done))); exact rfl; exact rfl; intro k1)
  repeat first
    | (apply WL.q; exact rfl; exact rfl; exact rfl; (first | (apply EvW.move; exact rfl) | (apply EvW.assign; exact rfl) | (apply EvW.fieldAddr0; exact rfl; exact FldC.eq) | (apply EvW.fieldAddr; exact rfl; exact FldC.eq) | (apply EvW.load; exact rfl; exact ScalC.eq; (focus ((repeat constructor); done)); exact rfl) | (apply EvW.ldSeen; exact rfl; exact ScalC.eq; assumption; (first | exact rfl | assumption)) | (apply EvW.ldFld; exact rfl; exact ScalC.eq; assumption; exact fun _ => rfl; omega; exact rfl; exact inferInstance) | (apply EvW.lenL; exact rfl; exact UndC.eq) | (apply EvW.cmpT; exact rfl; exact rfl; exact rfl; omega) | (apply EvW.cmpF; exact rfl; exact rfl; exact rfl; omega) | (apply EvW.cmp; exact rfl; exact rfl; exact rfl) | (apply EvW.pickT; exact rfl; exact rfl) | (apply EvW.pickF; exact rfl; exact rfl) | (apply EvW.seqS; exact rfl; exact rfl) | (apply EvW.seq; exact rfl; exact rfl) | (apply EvW.build; exact PlC.eq; exact ZvC.eq; exact rfl; exact rfl; (focus ((repeat (first | exact Fills.nil | (apply Fills.cons; exact rfl; (first | assumption | exact rfl); exact rfl) | exact SetMany.nil | apply SetMany.cons | apply SetMany.succ)); done))) | (apply EvW.peqN; exact rfl; exact rfl; exact UndC.eq) | (apply EvW.ldStr; exact rfl; exact ScalC.eq; assumption; omega) | (apply EvW.ldStrOwn; exact rfl; exact ScalC.eq; (focus ((repeat constructor); done)); omega) | (apply EvW.lenRow; exact rfl; exact UndC.eq; assumption) | (apply EvW.lenOwn; exact rfl; exact UndC.eq; (focus ((repeat constructor); done))) | (apply EvW.idxRow; exact rfl; exact rfl; exact UndC.eq; exact SzC.eq; assumption; omega; omega) | (apply EvW.idxOwn; exact rfl; exact rfl; exact UndC.eq; exact SzC.eq; (focus ((repeat constructor); done)); omega; omega) | (apply EvW.fldRow; exact rfl; exact FldC.eq; assumption; omega) | (apply EvW.fldOwn; exact rfl; exact FldC.eq; (focus ((repeat constructor); done)); omega) | (apply EvW.ldFldOwn; exact rfl; exact ScalC.eq; (focus ((repeat constructor); done)); exact fun _ => rfl; omega; exact rfl; exact inferInstance)))
    | refine WC.seq ?_ | refine WC.region ?_ | refine WL.nil ?_ | refine WE.next ?_ | refine WC.skip ?_ | refine WC.exit ?_ | refine WE.pass ?_ | refine WE.hit ?_ | refine WE.miss rfl ?_ | refine WE.out ?_ | refine WC.condT rfl ?_ | refine WC.condF rfl ?_ | refine WC.ret ?_ | refine WE.passRet ?_ | refine WE.outRet ?_ | refine WL.wanted rfl rfl rfl ?_ | refine WL.unwanted rfl rfl rfl rfl ?_ | refine WL.unwantedU rfl rfl rfl rfl ?_ | refine WL.unwanted0 rfl rfl rfl ?_
  try refine WL.wanted rfl rfl rfl ?_
  apply WL.callA ([wiresH wb [⟨1, 0, [], [[97], [98]]⟩]])
  · exact rfl
  · exact rfl
  · exact fun w => Try.call14 _ w
  · (focus ((repeat constructor); done))
  · exact fun w1 S1 hS1 hs1 ho1 => pass_spec wb [⟨1, 0, [], [[97], [98]]⟩] (.slice (some ⟨k1, 0, none⟩) 1 1) (telsOf 1 [[99]]) w1 S1 hS1 ((ho1 (.blk k1 #[i64 1, str [99]] 34) _ (by repeat constructor)).blkRow rfl (fun k u h => by simpa [telsOf, telC] using h) (by decide)) (okx_one (by decide)) (by decide) (fun t h => by simp [telsOf] at h; subst h; decide)
  rintro _ _ rfl
  first | refine WL.app4 ?_ | refine WL.app3 ?_ | refine WL.app2 ?_ | refine WL.app1 ?_ | refine WL.app0 ?_ | skip
  rename_i v2
  rw [show passF [⟨1, 0, [], [[97], [98]]⟩] (telsOf 1 [[99]]) = ([⟨1, 0, [], []⟩], telsOf 1 [[98], [97], [99]]) from pass1 ⟨1, 0, [], [[97], [98]]⟩ [[99]]]
  dsimp only
  obtain ⟨L, hL⟩ : ∃ L, telsOf 1 [[98], [97], [99]] = L := ⟨_, rfl⟩
  have hl3 : L.length = 3 := by rw [← hL]; rfl
  have hg0 : (L.getD ((0 : Int)).toNat default).2 = [98] := by rw [← hL]; rfl
  have hg2 : (L.getD ((2 : Int)).toNat default).2 = [99] := by rw [← hL]; rfl
  rw [hL]
  repeat first
    | (apply WL.q; exact rfl; exact rfl; exact rfl; (first | (apply EvW.move; exact rfl) | (apply EvW.assign; exact rfl) | (apply EvW.fieldAddr0; exact rfl; exact FldC.eq) | (apply EvW.fieldAddr; exact rfl; exact FldC.eq) | (apply EvW.load; exact rfl; exact ScalC.eq; (focus ((repeat constructor); done)); exact rfl) | (apply EvW.ldSeen; exact rfl; exact ScalC.eq; assumption; (first | exact rfl | assumption)) | (apply EvW.ldFld; exact rfl; exact ScalC.eq; assumption; exact fun _ => rfl; omega; exact rfl; exact inferInstance) | (apply EvW.lenL; exact rfl; exact UndC.eq) | (apply EvW.cmpT; exact rfl; exact rfl; exact rfl; omega) | (apply EvW.cmpF; exact rfl; exact rfl; exact rfl; omega) | (apply EvW.cmp; exact rfl; exact rfl; exact rfl) | (apply EvW.pickT; exact rfl; exact rfl) | (apply EvW.pickF; exact rfl; exact rfl) | (apply EvW.seqS; exact rfl; exact rfl) | (apply EvW.seq; exact rfl; exact rfl) | (apply EvW.build; exact PlC.eq; exact ZvC.eq; exact rfl; exact rfl; (focus ((repeat (first | exact Fills.nil | (apply Fills.cons; exact rfl; (first | assumption | exact rfl); exact rfl) | exact SetMany.nil | apply SetMany.cons | apply SetMany.succ)); done))) | (apply EvW.peqN; exact rfl; exact rfl; exact UndC.eq) | (apply EvW.ldStr; exact rfl; exact ScalC.eq; assumption; omega) | (apply EvW.ldStrOwn; exact rfl; exact ScalC.eq; (focus ((repeat constructor); done)); omega) | (apply EvW.lenRow; exact rfl; exact UndC.eq; assumption) | (apply EvW.lenOwn; exact rfl; exact UndC.eq; (focus ((repeat constructor); done))) | (apply EvW.idxRow; exact rfl; exact rfl; exact UndC.eq; exact SzC.eq; assumption; omega; omega) | (apply EvW.idxOwn; exact rfl; exact rfl; exact UndC.eq; exact SzC.eq; (focus ((repeat constructor); done)); omega; omega) | (apply EvW.fldRow; exact rfl; exact FldC.eq; assumption; omega) | (apply EvW.fldOwn; exact rfl; exact FldC.eq; (focus ((repeat constructor); done)); omega) | (apply EvW.ldFldOwn; exact rfl; exact ScalC.eq; (focus ((repeat constructor); done)); exact fun _ => rfl; omega; exact rfl; exact inferInstance)))
    | refine WC.seq ?_ | refine WC.region ?_ | refine WL.nil ?_ | refine WE.next ?_ | refine WC.skip ?_ | refine WC.exit ?_ | refine WE.pass ?_ | refine WE.hit ?_ | refine WE.miss rfl ?_ | refine WE.out ?_ | refine WC.condT rfl ?_ | refine WC.condF rfl ?_ | refine WC.ret ?_ | refine WE.passRet ?_ | refine WE.outRet ?_ | refine WL.wanted rfl rfl rfl ?_ | refine WL.unwanted rfl rfl rfl rfl ?_ | refine WL.unwantedU rfl rfl rfl rfl ?_ | refine WL.unwanted0 rfl rfl rfl ?_
  rw [hg0, decide_eq_true (rfl : ([98] : Txt) = [98])]
  repeat first
    | (apply WL.q; exact rfl; exact rfl; exact rfl; (first | (apply EvW.move; exact rfl) | (apply EvW.assign; exact rfl) | (apply EvW.fieldAddr0; exact rfl; exact FldC.eq) | (apply EvW.fieldAddr; exact rfl; exact FldC.eq) | (apply EvW.load; exact rfl; exact ScalC.eq; (focus ((repeat constructor); done)); exact rfl) | (apply EvW.ldSeen; exact rfl; exact ScalC.eq; assumption; (first | exact rfl | assumption)) | (apply EvW.ldFld; exact rfl; exact ScalC.eq; assumption; exact fun _ => rfl; omega; exact rfl; exact inferInstance) | (apply EvW.lenL; exact rfl; exact UndC.eq) | (apply EvW.cmpT; exact rfl; exact rfl; exact rfl; omega) | (apply EvW.cmpF; exact rfl; exact rfl; exact rfl; omega) | (apply EvW.cmp; exact rfl; exact rfl; exact rfl) | (apply EvW.pickT; exact rfl; exact rfl) | (apply EvW.pickF; exact rfl; exact rfl) | (apply EvW.seqS; exact rfl; exact rfl) | (apply EvW.seq; exact rfl; exact rfl) | (apply EvW.build; exact PlC.eq; exact ZvC.eq; exact rfl; exact rfl; (focus ((repeat (first | exact Fills.nil | (apply Fills.cons; exact rfl; (first | assumption | exact rfl); exact rfl) | exact SetMany.nil | apply SetMany.cons | apply SetMany.succ)); done))) | (apply EvW.peqN; exact rfl; exact rfl; exact UndC.eq) | (apply EvW.ldStr; exact rfl; exact ScalC.eq; assumption; omega) | (apply EvW.ldStrOwn; exact rfl; exact ScalC.eq; (focus ((repeat constructor); done)); omega) | (apply EvW.lenRow; exact rfl; exact UndC.eq; assumption) | (apply EvW.lenOwn; exact rfl; exact UndC.eq; (focus ((repeat constructor); done))) | (apply EvW.idxRow; exact rfl; exact rfl; exact UndC.eq; exact SzC.eq; assumption; omega; omega) | (apply EvW.idxOwn; exact rfl; exact rfl; exact UndC.eq; exact SzC.eq; (focus ((repeat constructor); done)); omega; omega) | (apply EvW.fldRow; exact rfl; exact FldC.eq; assumption; omega) | (apply EvW.fldOwn; exact rfl; exact FldC.eq; (focus ((repeat constructor); done)); omega) | (apply EvW.ldFldOwn; exact rfl; exact ScalC.eq; (focus ((repeat constructor); done)); exact fun _ => rfl; omega; exact rfl; exact inferInstance)))
    | refine WC.seq ?_ | refine WC.region ?_ | refine WL.nil ?_ | refine WE.next ?_ | refine WC.skip ?_ | refine WC.exit ?_ | refine WE.pass ?_ | refine WE.hit ?_ | refine WE.miss rfl ?_ | refine WE.out ?_ | refine WC.condT rfl ?_ | refine WC.condF rfl ?_ | refine WC.ret ?_ | refine WE.passRet ?_ | refine WE.outRet ?_ | refine WL.wanted rfl rfl rfl ?_ | refine WL.unwanted rfl rfl rfl rfl ?_ | refine WL.unwantedU rfl rfl rfl rfl ?_ | refine WL.unwanted0 rfl rfl rfl ?_
  rw [hg2, decide_eq_true (rfl : ([99] : Txt) = [99])]
  repeat first
    | (apply WL.q; exact rfl; exact rfl; exact rfl; (first | (apply EvW.move; exact rfl) | (apply EvW.assign; exact rfl) | (apply EvW.fieldAddr0; exact rfl; exact FldC.eq) | (apply EvW.fieldAddr; exact rfl; exact FldC.eq) | (apply EvW.load; exact rfl; exact ScalC.eq; (focus ((repeat constructor); done)); exact rfl) | (apply EvW.ldSeen; exact rfl; exact ScalC.eq; assumption; (first | exact rfl | assumption)) | (apply EvW.ldFld; exact rfl; exact ScalC.eq; assumption; exact fun _ => rfl; omega; exact rfl; exact inferInstance) | (apply EvW.lenL; exact rfl; exact UndC.eq) | (apply EvW.cmpT; exact rfl; exact rfl; exact rfl; omega) | (apply EvW.cmpF; exact rfl; exact rfl; exact rfl; omega) | (apply EvW.cmp; exact rfl; exact rfl; exact rfl) | (apply EvW.pickT; exact rfl; exact rfl) | (apply EvW.pickF; exact rfl; exact rfl) | (apply EvW.seqS; exact rfl; exact rfl) | (apply EvW.seq; exact rfl; exact rfl) | (apply EvW.build; exact PlC.eq; exact ZvC.eq; exact rfl; exact rfl; (focus ((repeat (first | exact Fills.nil | (apply Fills.cons; exact rfl; (first | assumption | exact rfl); exact rfl) | exact SetMany.nil | apply SetMany.cons | apply SetMany.succ)); done))) | (apply EvW.peqN; exact rfl; exact rfl; exact UndC.eq) | (apply EvW.ldStr; exact rfl; exact ScalC.eq; assumption; omega) | (apply EvW.ldStrOwn; exact rfl; exact ScalC.eq; (focus ((repeat constructor); done)); omega) | (apply EvW.lenRow; exact rfl; exact UndC.eq; assumption) | (apply EvW.lenOwn; exact rfl; exact UndC.eq; (focus ((repeat constructor); done))) | (apply EvW.idxRow; exact rfl; exact rfl; exact UndC.eq; exact SzC.eq; assumption; omega; omega) | (apply EvW.idxOwn; exact rfl; exact rfl; exact UndC.eq; exact SzC.eq; (focus ((repeat constructor); done)); omega; omega) | (apply EvW.fldRow; exact rfl; exact FldC.eq; assumption; omega) | (apply EvW.fldOwn; exact rfl; exact FldC.eq; (focus ((repeat constructor); done)); omega) | (apply EvW.ldFldOwn; exact rfl; exact ScalC.eq; (focus ((repeat constructor); done)); exact fun _ => rfl; omega; exact rfl; exact inferInstance)))
    | refine WC.seq ?_ | refine WC.region ?_ | refine WL.nil ?_ | refine WE.next ?_ | refine WC.skip ?_ | refine WC.exit ?_ | refine WE.pass ?_ | refine WE.hit ?_ | refine WE.miss rfl ?_ | refine WE.out ?_ | refine WC.condT rfl ?_ | refine WC.condF rfl ?_ | refine WC.ret ?_ | refine WE.passRet ?_ | refine WE.outRet ?_ | refine WL.wanted rfl rfl rfl ?_ | refine WL.unwanted rfl rfl rfl rfl ?_ | refine WL.unwantedU rfl rfl rfl rfl ?_ | refine WL.unwanted0 rfl rfl rfl ?_
  try refine WL.wanted rfl rfl rfl ?_
  apply WL.callA ([])
  · exact rfl
  · exact rfl
  · exact fun w => Try.call17 _ w
  · (focus ((repeat constructor); done))
  · exact fun w1 S1 hS1 hs1 ho1 => under_spec wb [⟨1, 0, [], []⟩] w1 S1 hS1 (ho1 (wiresH wb [⟨1, 0, [], []⟩]) _ (by repeat constructor)) (by decide) (by decide)
  rintro _ _ ⟨rfl, rfl⟩
  first | refine WL.app4 ?_ | refine WL.app3 ?_ | refine WL.app2 ?_ | refine WL.app1 ?_ | refine WL.app0 ?_ | skip
  rw [show (underF [⟨1, 0, [], []⟩] : Int) = 0 from rfl]
  repeat first
    | (apply WL.q; exact rfl; exact rfl; exact rfl; (first | (apply EvW.move; exact rfl) | (apply EvW.assign; exact rfl) | (apply EvW.fieldAddr0; exact rfl; exact FldC.eq) | (apply EvW.fieldAddr; exact rfl; exact FldC.eq) | (apply EvW.load; exact rfl; exact ScalC.eq; (focus ((repeat constructor); done)); exact rfl) | (apply EvW.ldSeen; exact rfl; exact ScalC.eq; assumption; (first | exact rfl | assumption)) | (apply EvW.ldFld; exact rfl; exact ScalC.eq; assumption; exact fun _ => rfl; omega; exact rfl; exact inferInstance) | (apply EvW.lenL; exact rfl; exact UndC.eq) | (apply EvW.cmpT; exact rfl; exact rfl; exact rfl; omega) | (apply EvW.cmpF; exact rfl; exact rfl; exact rfl; omega) | (apply EvW.cmp; exact rfl; exact rfl; exact rfl) | (apply EvW.pickT; exact rfl; exact rfl) | (apply EvW.pickF; exact rfl; exact rfl) | (apply EvW.seqS; exact rfl; exact rfl) | (apply EvW.seq; exact rfl; exact rfl) | (apply EvW.build; exact PlC.eq; exact ZvC.eq; exact rfl; exact rfl; (focus ((repeat (first | exact Fills.nil | (apply Fills.cons; exact rfl; (first | assumption | exact rfl); exact rfl) | exact SetMany.nil | apply SetMany.cons | apply SetMany.succ)); done))) | (apply EvW.peqN; exact rfl; exact rfl; exact UndC.eq) | (apply EvW.ldStr; exact rfl; exact ScalC.eq; assumption; omega) | (apply EvW.ldStrOwn; exact rfl; exact ScalC.eq; (focus ((repeat constructor); done)); omega) | (apply EvW.lenRow; exact rfl; exact UndC.eq; assumption) | (apply EvW.lenOwn; exact rfl; exact UndC.eq; (focus ((repeat constructor); done))) | (apply EvW.idxRow; exact rfl; exact rfl; exact UndC.eq; exact SzC.eq; assumption; omega; omega) | (apply EvW.idxOwn; exact rfl; exact rfl; exact UndC.eq; exact SzC.eq; (focus ((repeat constructor); done)); omega; omega) | (apply EvW.fldRow; exact rfl; exact FldC.eq; assumption; omega) | (apply EvW.fldOwn; exact rfl; exact FldC.eq; (focus ((repeat constructor); done)); omega) | (apply EvW.ldFldOwn; exact rfl; exact ScalC.eq; (focus ((repeat constructor); done)); exact fun _ => rfl; omega; exact rfl; exact inferInstance)))
    | refine WC.seq ?_ | refine WC.region ?_ | refine WL.nil ?_ | refine WE.next ?_ | refine WC.skip ?_ | refine WC.exit ?_ | refine WE.pass ?_ | refine WE.hit ?_ | refine WE.miss rfl ?_ | refine WE.out ?_ | refine WC.condT rfl ?_ | refine WC.condF rfl ?_ | refine WC.ret ?_ | refine WE.passRet ?_ | refine WE.outRet ?_ | refine WL.wanted rfl rfl rfl ?_ | refine WL.unwanted rfl rfl rfl rfl ?_ | refine WL.unwantedU rfl rfl rfl rfl ?_ | refine WL.unwanted0 rfl rfl rfl ?_
  refine WE.keep (xs := []) (by repeat constructor) ?_
  refine WE.ret1 rfl rfl ?_
  exact ⟨rfl, rfl⟩
end Go.Proofs.Ytoaajdmacngnjaa
namespace Go.BK
open Go.RowKit
section
variable {P : Program} {w0 : World} {S0 : BSet} {n : Nat} {F : Fr} {A : List HP}
/-- A type of ints, truths or texts, and a value of it. -/
def flatT3 : Option TypeDesc → Bool
  | some (.int _) => true
  | some .string => true
  | some .bool => true
  | _ => false
def flatV3 : Option TypeDesc → Option Value → Bool
  | some (.int _), some (.int _ _) => true
  | some .string, some (.string _) => true
  | some .bool, some (.bool _) => true
  | _, _ => false
theorem runPartF3 {w : World} {t : TypeId} {cs : Array Value} {off : Nat} {v : Value} (hu : flatT3 (P.underlying t) = true) (h : cs[off]? = some v) : (part t cs off).run P w = .ok v w := by
  revert hu
  cases hd : P.underlying t with
  | none => intro h; cases h
  | some d => cases d <;> intro hu <;> first | (simp [part, isAgg, run_underlying hd, h]; done) | cases hu
theorem runEqFlat3 {w : World} {t : TypeId} {v : Value} (d : Nat) (hu : flatV3 (P.underlying t) (some v) = true) : (Op.equalIn (d + 1) t v v).run P w = .ok true w := by
  revert hu
  cases hd : P.underlying t with
  | none => intro h; cases h
  | some e =>
    cases e <;> intro hu <;> first | (cases hu; done) | skip
    all_goals (cases v <;> first | (cases hu; done) | (simp [Op.equalIn, run_underlying hd]; done) | (simp [Op.equalIn, run_underlying hd]; rename_i s; show (s.data == s.data) = true; exact beq_self_eq_true _))
theorem flatV_T3 {o : Option TypeDesc} {v : Option Value} (h : flatV3 o v = true) : flatT3 o = true := by
  cases o with
  | none => cases h
  | some d => cases d <;> first | rfl | (cases v <;> cases h)
def isBoolT3 : Option TypeDesc → Nat
  | some .bool => 1
  | some .string => 2
  | _ => 0
def mixV3 : Nat → Option Value → Bool
  | 0, some (.int _ _) => true
  | 1, some (.bool _) => true
  | 2, some (.string _) => true
  | _, _ => false
/-- A struct of ints, truths and texts against itself: the fields' places, of which kind. -/
def mixB3 (P : Program) (t : TypeId) : Option (List (Nat × Nat)) := match P.underlying t with
  | some (.struct fs) => bif !P.stoodInHeld t && !P.eqGuardType P.depth t && fs.toList.all (fun f => f.name != "_" && flatT3 (P.underlying f.type)) then some (fs.toList.map fun f => (f.offset, isBoolT3 (P.underlying f.type))) else none
  | _ => none
theorem mix_flat3 {o : Option TypeDesc} {v : Option Value} (h : flatT3 o = true) (hv : mixV3 (isBoolT3 o) v = true) : flatV3 o v = true := by
  cases o with
  | none => cases h
  | some d =>
    cases d <;> first | (cases h; done) | skip
    all_goals (cases v with
      | none => cases hv
      | some v => cases v <;> first | rfl | cases hv)
theorem runEqMix3 {w : World} {t : TypeId} {fs : List Field} {l : List Value} (hu : P.underlying t = some (.struct fs.toArray)) (hst : P.stoodInHeld t = false) (hf : ∀ f ∈ fs, f.name ≠ "_" ∧ flatV3 (P.underlying f.type) l[f.offset]? = true) :
    (Op.equal t (.agg l.toArray) (.agg l.toArray)).run P w = .ok true w := by
  have key : ∀ d, (Op.equalIn (d + 2) t (.agg l.toArray) (.agg l.toArray)).run P w = .ok true w := fun d => by
    rw [Op.equalIn]
    simp only [Sem.run_bind, run_underlying hu, Result.andThen]
    have hp : Sem.run P program w = .ok P w := rfl
    simp only [hp, hst, Bool.false_eq_true, ↓reduceIte, List.forIn_toArray, Sem.run_bind]
    rw [runForYield]
    · rfl
    · intro f hf'
      obtain ⟨h1, h2⟩ := hf f hf'
      cases hv : l[f.offset]? with
      | none => rw [hv] at h2; revert h2; cases P.underlying f.type with
        | none => intro h; cases h
        | some d => cases d <;> intro h <;> cases h
      | some v =>
        rw [hv] at h2
        rw [if_pos h1]
        simp only [Sem.run_bind, runPartF3 (flatV_T3 h2) (show l.toArray[f.offset]? = some v by simpa using hv), Result.andThen, runEqFlat3 d h2]
        rfl
  exact key 9998
theorem mixB_get3 {t : TypeId} {ks : List (Nat × Nat)} {l : List Value} (hB : mixB3 P t = some ks) (hl : ks.all (fun k => mixV3 k.2 (getL l k.1)) = true) :
    P.eqGuardType P.depth t = false ∧ ∀ w, (Op.equal t (.agg l.toArray) (.agg l.toArray)).run P w = .ok true w := by
  unfold mixB3 at hB
  cases hu : P.underlying t with
  | none => simp [hu] at hB
  | some d =>
    cases d with
    | struct gs =>
      rw [hu] at hB
      dsimp only at hB
      cases hc : (!P.stoodInHeld t && !P.eqGuardType P.depth t && gs.toList.all (fun f => f.name != "_" && flatT3 (P.underlying f.type))) with
      | false => rw [hc] at hB; exact absurd hB (by simp)
      | true =>
        rw [hc, cond_true, Option.some.injEq] at hB
        subst hB
        rw [Bool.and_eq_true, Bool.and_eq_true] at hc
        obtain ⟨⟨h1, h2⟩, h3⟩ := hc
        refine ⟨by simpa using h2, fun w => runEqMix3 (fs := gs.toList) (by simpa using hu) (by simpa using h1) fun f hf => ?_⟩
        have h4 := List.all_eq_true.1 h3 f hf
        rw [Bool.and_eq_true] at h4
        have h5 := List.all_eq_true.1 hl _ (List.mem_map.2 ⟨f, hf, rfl⟩)
        rw [getL_eq] at h5
        exact ⟨by simpa using h4.1, mix_flat3 h4.2 h5⟩
    | _ => simp [hu] at hB
theorem EvW.neMix3 {t ty : TypeId} {x y : Operand} {dd : Option Tmp} {T : TypeId} {pos : String} {af : Array Edge} {g : Option (Nat × Bool)} (ks : List (Nat × Nat)) {l : List Value} (hx : ev F x = some (.agg l.toArray)) (hy : ev F y = some (.agg l.toArray)) (hB : mixB3 P t = some ks) (hl : ks.all (fun k => mixV3 k.2 (getL l k.1)) = true) : EvW P w0 S0 n F A ⟨dd, .binOp .neq t x y ty, T, pos, af, g⟩ (.bool false) :=
  .pure fun a' w ha _ => by
    obtain ⟨h1, h2⟩ := mixB_get3 hB hl
    simp [execOp, ha.eval hx, ha.eval hy, eqGuard, h1, binOp, h2]
end
end Go.BK
namespace Go.BK
open Go.RowKit
end Go.BK
namespace Go.Proofs.Ytoaajdmacngnjaa
open Go.RowKit Go.BK
theorem sameTels_spec (va vb : Value) (l : List Tel) (w : World) (S : BSet) (hS : (sepL []).sat S w) (ha : Sees w S (.row 2 va l.length (l.flatMap telC))) (hb : Sees w S (.row 2 vb l.length (l.flatMap telC))) (hn : l.length ≤ 4294967296) :
    Tri Try.prog 16 #[va, vb] w S fun u A => u = .bool true ∧ A = [] := by
  refine Tri.enter (l := [va, vb]) Try.func16 rfl Try.ntmps16 rfl [(0, va), (1, vb)] (subA rfl) hS ?_
  repeat first
    | (apply WL.q; exact rfl; exact rfl; exact rfl; (first | (apply EvW.move; exact rfl) | (apply EvW.assign; exact rfl) | (apply EvW.ldSeen; exact rfl; exact ScalC.eq; assumption; (first | exact rfl | assumption)) | (apply EvW.ldFld; exact rfl; exact ScalC.eq; assumption; exact fun _ => rfl; omega; exact rfl; exact inferInstance) | (apply EvW.lenL; exact rfl; exact UndC.eq) | (apply EvW.cmpT; exact rfl; exact rfl; exact rfl; omega) | (apply EvW.cmpF; exact rfl; exact rfl; exact rfl; omega) | (apply EvW.cmp; exact rfl; exact rfl; exact rfl) | (apply EvW.arN; exact rfl; exact rfl; exact rfl; refine i64_in ?_ ?_ <;> omega) | (apply EvW.ar; exact rfl; exact rfl; exact rfl) | (apply EvW.loadAgg; exact rfl; exact AggC.eq; exact SzC.eq; (focus ((repeat constructor); done)); (focus ((repeat (first | exact SubL.nil | apply SubL.cons | apply SubL.succ)); done))) | (apply EvW.lenRow; exact rfl; exact UndC.eq; assumption) | (apply EvW.lenOwn; exact rfl; exact UndC.eq; (focus ((repeat constructor); done))) | (apply EvW.idxRow; exact rfl; exact rfl; exact UndC.eq; exact SzC.eq; assumption; omega; omega) | (apply EvW.idxOwn; exact rfl; exact rfl; exact UndC.eq; exact SzC.eq; (focus ((repeat constructor); done)); omega; omega) | (apply EvW.ldFldOwn; exact rfl; exact ScalC.eq; (focus ((repeat constructor); done)); exact fun _ => rfl; omega; exact rfl; exact inferInstance)))
    | refine WC.seq ?_ | refine WC.region ?_ | refine WL.nil ?_ | refine WE.next ?_ | refine WC.block ?_ | refine WC.skip ?_ | refine WC.exit ?_ | refine WE.pass ?_ | refine WE.hit ?_ | refine WE.miss rfl ?_ | refine WE.out ?_ | refine WC.condT rfl ?_ | refine WC.condF rfl ?_ | refine WC.ret ?_ | refine WE.passRet ?_ | refine WE.outRet ?_ | refine WL.wanted rfl rfl rfl ?_
  refine WC.loopK (σ := Nat) [0, 1, 12] (fun s => [(13, i64 s)]) (fun s => []) (fun s => s ≤ l.length) (fun s => l.length - s) 0 (by (focus ((repeat (first | exact Pick.nil | (apply Pick.cons; exact rfl))); done))) (by (focus ((repeat (first | exact trivial | (refine ⟨rfl, ?_⟩))); done))) (fun _ h => h.keep (by repeat constructor)) (Nat.zero_le _) (fun s hs => ?_)
  obtain ⟨i, rfl⟩ : ∃ q, q = s := ⟨s, rfl⟩
  simp only [List.cons_append, List.nil_append] at hs ⊢
  by_cases hlt : (i : Int) < l.length
  · repeat first
      | (apply WL.q; exact rfl; exact rfl; exact rfl; (first | (apply EvW.move; exact rfl) | (apply EvW.assign; exact rfl) | (apply EvW.ldSeen; exact rfl; exact ScalC.eq; assumption; (first | exact rfl | assumption)) | (apply EvW.ldFld; exact rfl; exact ScalC.eq; assumption; exact fun _ => rfl; omega; exact rfl; exact inferInstance) | (apply EvW.lenL; exact rfl; exact UndC.eq) | (apply EvW.cmpT; exact rfl; exact rfl; exact rfl; omega) | (apply EvW.cmpF; exact rfl; exact rfl; exact rfl; omega) | (apply EvW.cmp; exact rfl; exact rfl; exact rfl) | (apply EvW.arN; exact rfl; exact rfl; exact rfl; refine i64_in ?_ ?_ <;> omega) | (apply EvW.ar; exact rfl; exact rfl; exact rfl) | (apply EvW.loadAgg; exact rfl; exact AggC.eq; exact SzC.eq; (focus ((repeat constructor); done)); (focus ((repeat (first | exact SubL.nil | apply SubL.cons | apply SubL.succ)); done))) | (apply EvW.lenRow; exact rfl; exact UndC.eq; assumption) | (apply EvW.lenOwn; exact rfl; exact UndC.eq; (focus ((repeat constructor); done))) | (apply EvW.idxRow; exact rfl; exact rfl; exact UndC.eq; exact SzC.eq; assumption; omega; omega) | (apply EvW.idxOwn; exact rfl; exact rfl; exact UndC.eq; exact SzC.eq; (focus ((repeat constructor); done)); omega; omega) | (apply EvW.ldFldOwn; exact rfl; exact ScalC.eq; (focus ((repeat constructor); done)); exact fun _ => rfl; omega; exact rfl; exact inferInstance)))
      | refine WC.seq ?_ | refine WC.region ?_ | refine WL.nil ?_ | refine WE.next ?_ | refine WC.block ?_ | refine WC.skip ?_ | refine WC.exit ?_ | refine WE.pass ?_ | refine WE.hit ?_ | refine WE.miss rfl ?_ | refine WE.out ?_ | refine WC.condT rfl ?_ | refine WC.condF rfl ?_ | refine WC.ret ?_ | refine WE.passRet ?_ | refine WE.outRet ?_ | refine WL.wanted rfl rfl rfl ?_
    repeat refine WC.seq ?_
    refine WC.keep (xs := []) (by repeat constructor) ?_
    apply WC.par _ (fun c : Ch => []) [] [] [] Try.mixed
    · (focus ((repeat (first | exact Restr.nil | (apply Restr.keep; exact rfl; exact rfl) | (apply Restr.drop; exact rfl))); done))
    · intro c; exact (by repeat constructor)
    · exact rfl
    · decide +kernel
    · decide +kernel
    · intro c
      (apply Par.quiet _ []; exact rfl; decide +kernel; exact rfl; intro R; refine ⟨_, (by repeat constructor), ?_⟩;
           (first | (apply EvW.move; exact rfl) | (apply EvW.assign; exact rfl) | (apply EvW.ldSeen; exact rfl; exact ScalC.eq; assumption; (first | exact rfl | assumption)) | (apply EvW.ldFld; exact rfl; exact ScalC.eq; assumption; exact fun _ => rfl; omega; exact rfl; exact inferInstance) | (apply EvW.lenL; exact rfl; exact UndC.eq) | (apply EvW.cmpT; exact rfl; exact rfl; exact rfl; omega) | (apply EvW.cmpF; exact rfl; exact rfl; exact rfl; omega) | (apply EvW.cmp; exact rfl; exact rfl; exact rfl) | (apply EvW.arN; exact rfl; exact rfl; exact rfl; refine i64_in ?_ ?_ <;> omega) | (apply EvW.ar; exact rfl; exact rfl; exact rfl) | (apply EvW.loadAgg; exact rfl; exact AggC.eq; exact SzC.eq; (focus ((repeat constructor); done)); (focus ((repeat (first | exact SubL.nil | apply SubL.cons | apply SubL.succ)); done))) | (apply EvW.lenRow; exact rfl; exact UndC.eq; assumption) | (apply EvW.lenOwn; exact rfl; exact UndC.eq; (focus ((repeat constructor); done))) | (apply EvW.idxRow; exact rfl; exact rfl; exact UndC.eq; exact SzC.eq; assumption; omega; omega) | (apply EvW.idxOwn; exact rfl; exact rfl; exact UndC.eq; exact SzC.eq; (focus ((repeat constructor); done)); omega; omega) | (apply EvW.ldFldOwn; exact rfl; exact ScalC.eq; (focus ((repeat constructor); done)); exact fun _ => rfl; omega; exact rfl; exact inferInstance)))
      (apply Par.quiet _ []; exact rfl; decide +kernel; exact rfl; intro R; refine ⟨_, (by repeat constructor), ?_⟩;
           (first | (apply EvW.move; exact rfl) | (apply EvW.assign; exact rfl) | (apply EvW.ldSeen; exact rfl; exact ScalC.eq; assumption; (first | exact rfl | assumption)) | (apply EvW.ldFld; exact rfl; exact ScalC.eq; assumption; exact fun _ => rfl; omega; exact rfl; exact inferInstance) | (apply EvW.lenL; exact rfl; exact UndC.eq) | (apply EvW.cmpT; exact rfl; exact rfl; exact rfl; omega) | (apply EvW.cmpF; exact rfl; exact rfl; exact rfl; omega) | (apply EvW.cmp; exact rfl; exact rfl; exact rfl) | (apply EvW.arN; exact rfl; exact rfl; exact rfl; refine i64_in ?_ ?_ <;> omega) | (apply EvW.ar; exact rfl; exact rfl; exact rfl) | (apply EvW.loadAgg; exact rfl; exact AggC.eq; exact SzC.eq; (focus ((repeat constructor); done)); (focus ((repeat (first | exact SubL.nil | apply SubL.cons | apply SubL.succ)); done))) | (apply EvW.lenRow; exact rfl; exact UndC.eq; assumption) | (apply EvW.lenOwn; exact rfl; exact UndC.eq; (focus ((repeat constructor); done))) | (apply EvW.idxRow; exact rfl; exact rfl; exact UndC.eq; exact SzC.eq; assumption; omega; omega) | (apply EvW.idxOwn; exact rfl; exact rfl; exact UndC.eq; exact SzC.eq; (focus ((repeat constructor); done)); omega; omega) | (apply EvW.ldFldOwn; exact rfl; exact ScalC.eq; (focus ((repeat constructor); done)); exact fun _ => rfl; omega; exact rfl; exact inferInstance)))
      (apply Par.quiet _ []; exact rfl; decide +kernel; exact rfl; intro R; refine ⟨_, (by repeat constructor), ?_⟩;
           (first | (apply EvW.move; exact rfl) | (apply EvW.assign; exact rfl) | (apply EvW.ldSeen; exact rfl; exact ScalC.eq; assumption; (first | exact rfl | assumption)) | (apply EvW.ldFld; exact rfl; exact ScalC.eq; assumption; exact fun _ => rfl; omega; exact rfl; exact inferInstance) | (apply EvW.lenL; exact rfl; exact UndC.eq) | (apply EvW.cmpT; exact rfl; exact rfl; exact rfl; omega) | (apply EvW.cmpF; exact rfl; exact rfl; exact rfl; omega) | (apply EvW.cmp; exact rfl; exact rfl; exact rfl) | (apply EvW.arN; exact rfl; exact rfl; exact rfl; refine i64_in ?_ ?_ <;> omega) | (apply EvW.ar; exact rfl; exact rfl; exact rfl) | (apply EvW.loadAgg; exact rfl; exact AggC.eq; exact SzC.eq; (focus ((repeat constructor); done)); (focus ((repeat (first | exact SubL.nil | apply SubL.cons | apply SubL.succ)); done))) | (apply EvW.lenRow; exact rfl; exact UndC.eq; assumption) | (apply EvW.lenOwn; exact rfl; exact UndC.eq; (focus ((repeat constructor); done))) | (apply EvW.idxRow; exact rfl; exact rfl; exact UndC.eq; exact SzC.eq; assumption; omega; omega) | (apply EvW.idxOwn; exact rfl; exact rfl; exact UndC.eq; exact SzC.eq; (focus ((repeat constructor); done)); omega; omega) | (apply EvW.ldFldOwn; exact rfl; exact ScalC.eq; (focus ((repeat constructor); done)); exact fun _ => rfl; omega; exact rfl; exact inferInstance)))
      apply Par.quiet _ []
      · exact rfl
      · decide +kernel
      · exact rfl
      · intro R
        refine ⟨_, (by repeat constructor), ?_⟩
        (apply EvW.ldElem (xs := l) (z := (default : Tel)) (f := telC); exact rfl; exact AggC.eq; exact SzC.eq; exact rfl; exact fun _ => rfl; exact ha; omega)
      (apply Par.quiet _ []; exact rfl; decide +kernel; exact rfl; intro R; refine ⟨_, (by repeat constructor), ?_⟩;
           (first | (apply EvW.move; exact rfl) | (apply EvW.assign; exact rfl) | (apply EvW.ldSeen; exact rfl; exact ScalC.eq; assumption; (first | exact rfl | assumption)) | (apply EvW.ldFld; exact rfl; exact ScalC.eq; assumption; exact fun _ => rfl; omega; exact rfl; exact inferInstance) | (apply EvW.lenL; exact rfl; exact UndC.eq) | (apply EvW.cmpT; exact rfl; exact rfl; exact rfl; omega) | (apply EvW.cmpF; exact rfl; exact rfl; exact rfl; omega) | (apply EvW.cmp; exact rfl; exact rfl; exact rfl) | (apply EvW.arN; exact rfl; exact rfl; exact rfl; refine i64_in ?_ ?_ <;> omega) | (apply EvW.ar; exact rfl; exact rfl; exact rfl) | (apply EvW.loadAgg; exact rfl; exact AggC.eq; exact SzC.eq; (focus ((repeat constructor); done)); (focus ((repeat (first | exact SubL.nil | apply SubL.cons | apply SubL.succ)); done))) | (apply EvW.lenRow; exact rfl; exact UndC.eq; assumption) | (apply EvW.lenOwn; exact rfl; exact UndC.eq; (focus ((repeat constructor); done))) | (apply EvW.idxRow; exact rfl; exact rfl; exact UndC.eq; exact SzC.eq; assumption; omega; omega) | (apply EvW.idxOwn; exact rfl; exact rfl; exact UndC.eq; exact SzC.eq; (focus ((repeat constructor); done)); omega; omega) | (apply EvW.ldFldOwn; exact rfl; exact ScalC.eq; (focus ((repeat constructor); done)); exact fun _ => rfl; omega; exact rfl; exact inferInstance)))
      (apply Par.quiet _ []; exact rfl; decide +kernel; exact rfl; intro R; refine ⟨_, (by repeat constructor), ?_⟩;
           (first | (apply EvW.move; exact rfl) | (apply EvW.assign; exact rfl) | (apply EvW.ldSeen; exact rfl; exact ScalC.eq; assumption; (first | exact rfl | assumption)) | (apply EvW.ldFld; exact rfl; exact ScalC.eq; assumption; exact fun _ => rfl; omega; exact rfl; exact inferInstance) | (apply EvW.lenL; exact rfl; exact UndC.eq) | (apply EvW.cmpT; exact rfl; exact rfl; exact rfl; omega) | (apply EvW.cmpF; exact rfl; exact rfl; exact rfl; omega) | (apply EvW.cmp; exact rfl; exact rfl; exact rfl) | (apply EvW.arN; exact rfl; exact rfl; exact rfl; refine i64_in ?_ ?_ <;> omega) | (apply EvW.ar; exact rfl; exact rfl; exact rfl) | (apply EvW.loadAgg; exact rfl; exact AggC.eq; exact SzC.eq; (focus ((repeat constructor); done)); (focus ((repeat (first | exact SubL.nil | apply SubL.cons | apply SubL.succ)); done))) | (apply EvW.lenRow; exact rfl; exact UndC.eq; assumption) | (apply EvW.lenOwn; exact rfl; exact UndC.eq; (focus ((repeat constructor); done))) | (apply EvW.idxRow; exact rfl; exact rfl; exact UndC.eq; exact SzC.eq; assumption; omega; omega) | (apply EvW.idxOwn; exact rfl; exact rfl; exact UndC.eq; exact SzC.eq; (focus ((repeat constructor); done)); omega; omega) | (apply EvW.ldFldOwn; exact rfl; exact ScalC.eq; (focus ((repeat constructor); done)); exact fun _ => rfl; omega; exact rfl; exact inferInstance)))
      (apply Par.quiet _ []; exact rfl; decide +kernel; exact rfl; intro R; refine ⟨_, (by repeat constructor), ?_⟩;
           (first | (apply EvW.move; exact rfl) | (apply EvW.assign; exact rfl) | (apply EvW.ldSeen; exact rfl; exact ScalC.eq; assumption; (first | exact rfl | assumption)) | (apply EvW.ldFld; exact rfl; exact ScalC.eq; assumption; exact fun _ => rfl; omega; exact rfl; exact inferInstance) | (apply EvW.lenL; exact rfl; exact UndC.eq) | (apply EvW.cmpT; exact rfl; exact rfl; exact rfl; omega) | (apply EvW.cmpF; exact rfl; exact rfl; exact rfl; omega) | (apply EvW.cmp; exact rfl; exact rfl; exact rfl) | (apply EvW.arN; exact rfl; exact rfl; exact rfl; refine i64_in ?_ ?_ <;> omega) | (apply EvW.ar; exact rfl; exact rfl; exact rfl) | (apply EvW.loadAgg; exact rfl; exact AggC.eq; exact SzC.eq; (focus ((repeat constructor); done)); (focus ((repeat (first | exact SubL.nil | apply SubL.cons | apply SubL.succ)); done))) | (apply EvW.lenRow; exact rfl; exact UndC.eq; assumption) | (apply EvW.lenOwn; exact rfl; exact UndC.eq; (focus ((repeat constructor); done))) | (apply EvW.idxRow; exact rfl; exact rfl; exact UndC.eq; exact SzC.eq; assumption; omega; omega) | (apply EvW.idxOwn; exact rfl; exact rfl; exact UndC.eq; exact SzC.eq; (focus ((repeat constructor); done)); omega; omega) | (apply EvW.ldFldOwn; exact rfl; exact ScalC.eq; (focus ((repeat constructor); done)); exact fun _ => rfl; omega; exact rfl; exact inferInstance)))
      apply Par.quiet _ []
      · exact rfl
      · decide +kernel
      · exact rfl
      · intro R
        refine ⟨_, (by repeat constructor), ?_⟩
        (apply EvW.ldElem (xs := l) (z := (default : Tel)) (f := telC); exact rfl; exact AggC.eq; exact SzC.eq; exact rfl; exact fun _ => rfl; exact hb; omega)
      apply Par.quiet _ []
      · exact rfl
      · decide +kernel
      · exact rfl
      · intro R
        refine ⟨_, (by repeat constructor), ?_⟩
        (apply EvW.neMix3 [(0, 0), (1, 2)] (l := telC (l.getD ((i : Nat) : Int).toNat default)); exact rfl; exact rfl; kernel_rfl; exact rfl)
      exact Par.nil
    · repeat (first | exact AllN.nil | (apply AllN.cons; (intro c x; (repeat (first | exact IndA.nil | (apply IndA.skip; decide +kernel) | apply IndA.same))))) 
    · repeat (first | exact AllN.nil | (apply AllN.cons; (intro c x; (repeat (first | exact IndT.nil | (apply IndT.skip; decide +kernel) | apply IndT.same))))) 
    · exact fun _ => rfl
    intro c
    refine ⟨_, (by repeat constructor), ?_⟩
    apply WE.writ
    · (focus ((repeat (first | exact Writ.nil | apply Writ.some | apply Writ.none)); done))
    repeat first
      | (apply WL.q; exact rfl; exact rfl; exact rfl; (first | (apply EvW.move; exact rfl) | (apply EvW.assign; exact rfl) | (apply EvW.ldSeen; exact rfl; exact ScalC.eq; assumption; (first | exact rfl | assumption)) | (apply EvW.ldFld; exact rfl; exact ScalC.eq; assumption; exact fun _ => rfl; omega; exact rfl; exact inferInstance) | (apply EvW.lenL; exact rfl; exact UndC.eq) | (apply EvW.cmpT; exact rfl; exact rfl; exact rfl; omega) | (apply EvW.cmpF; exact rfl; exact rfl; exact rfl; omega) | (apply EvW.cmp; exact rfl; exact rfl; exact rfl) | (apply EvW.arN; exact rfl; exact rfl; exact rfl; refine i64_in ?_ ?_ <;> omega) | (apply EvW.ar; exact rfl; exact rfl; exact rfl) | (apply EvW.loadAgg; exact rfl; exact AggC.eq; exact SzC.eq; (focus ((repeat constructor); done)); (focus ((repeat (first | exact SubL.nil | apply SubL.cons | apply SubL.succ)); done))) | (apply EvW.lenRow; exact rfl; exact UndC.eq; assumption) | (apply EvW.lenOwn; exact rfl; exact UndC.eq; (focus ((repeat constructor); done))) | (apply EvW.idxRow; exact rfl; exact rfl; exact UndC.eq; exact SzC.eq; assumption; omega; omega) | (apply EvW.idxOwn; exact rfl; exact rfl; exact UndC.eq; exact SzC.eq; (focus ((repeat constructor); done)); omega; omega) | (apply EvW.ldFldOwn; exact rfl; exact ScalC.eq; (focus ((repeat constructor); done)); exact fun _ => rfl; omega; exact rfl; exact inferInstance)))
      | refine WC.seq ?_ | refine WC.region ?_ | refine WL.nil ?_ | refine WE.next ?_ | refine WC.block ?_ | refine WC.skip ?_ | refine WC.exit ?_ | refine WE.pass ?_ | refine WE.hit ?_ | refine WE.miss rfl ?_ | refine WE.out ?_ | refine WC.condT rfl ?_ | refine WC.condF rfl ?_ | refine WC.ret ?_ | refine WE.passRet ?_ | refine WE.outRet ?_ | refine WL.wanted rfl rfl rfl ?_
    exact WE.again (s := i) ((i + 1)) (by omega) (by (focus ((repeat (first | exact trivial | (refine ⟨rfl, ?_⟩))); done))) (fun _ h => (by (try simp only []); exact h.keep (by repeat constructor))) (by (try simp only []); omega)
  · repeat first
      | (apply WL.q; exact rfl; exact rfl; exact rfl; (first | (apply EvW.move; exact rfl) | (apply EvW.assign; exact rfl) | (apply EvW.ldSeen; exact rfl; exact ScalC.eq; assumption; (first | exact rfl | assumption)) | (apply EvW.ldFld; exact rfl; exact ScalC.eq; assumption; exact fun _ => rfl; omega; exact rfl; exact inferInstance) | (apply EvW.lenL; exact rfl; exact UndC.eq) | (apply EvW.cmpT; exact rfl; exact rfl; exact rfl; omega) | (apply EvW.cmpF; exact rfl; exact rfl; exact rfl; omega) | (apply EvW.cmp; exact rfl; exact rfl; exact rfl) | (apply EvW.arN; exact rfl; exact rfl; exact rfl; refine i64_in ?_ ?_ <;> omega) | (apply EvW.ar; exact rfl; exact rfl; exact rfl) | (apply EvW.loadAgg; exact rfl; exact AggC.eq; exact SzC.eq; (focus ((repeat constructor); done)); (focus ((repeat (first | exact SubL.nil | apply SubL.cons | apply SubL.succ)); done))) | (apply EvW.lenRow; exact rfl; exact UndC.eq; assumption) | (apply EvW.lenOwn; exact rfl; exact UndC.eq; (focus ((repeat constructor); done))) | (apply EvW.idxRow; exact rfl; exact rfl; exact UndC.eq; exact SzC.eq; assumption; omega; omega) | (apply EvW.idxOwn; exact rfl; exact rfl; exact UndC.eq; exact SzC.eq; (focus ((repeat constructor); done)); omega; omega) | (apply EvW.ldFldOwn; exact rfl; exact ScalC.eq; (focus ((repeat constructor); done)); exact fun _ => rfl; omega; exact rfl; exact inferInstance)))
      | refine WC.seq ?_ | refine WC.region ?_ | refine WL.nil ?_ | refine WE.next ?_ | refine WC.block ?_ | refine WC.skip ?_ | refine WC.exit ?_ | refine WE.pass ?_ | refine WE.hit ?_ | refine WE.miss rfl ?_ | refine WE.out ?_ | refine WC.condT rfl ?_ | refine WC.condF rfl ?_ | refine WC.ret ?_ | refine WE.passRet ?_ | refine WE.outRet ?_ | refine WL.wanted rfl rfl rfl ?_
    refine WE.bare ?_
    refine WE.ret1 rfl rfl ?_
    exact ⟨rfl, rfl⟩
/-- A step of a script: a mode is set, or telegrams go in. -/
structure OpW where
  set : Bool
  p : Int
  m : Int
  v : Value
  ls : List Tel
instance : Inhabited OpW := ⟨⟨false, 0, 0, .slice none 0 0, []⟩⟩
def opWC (o : OpW) : List Value := [.bool o.set, i64 o.p, i64 o.m, o.v]
structure OpW.Good (o : OpW) (w : World) (S : BSet) : Prop where
  row : Sees w S (.row 2 o.v o.ls.length (o.ls.flatMap telC))
  wp : (Lit.int .i64 o.p).wf = true
  wt : ∀ t ∈ o.ls, (Lit.int .i64 t.1).wf = true ∧ t.2.length ≤ 140737488355328
def opMuW (o : OpW) : Nat := o.ls.length + 1
def muW (os : List OpW) : Nat := (os.map opMuW).sum
structure Inv (n : Nat) (xs : List Wr) : Prop where
  nodup : (xs.map (·.p)).Nodup
  wf : ∀ q ∈ xs, (Lit.int .i64 q.p).wf = true
  len : xs.length ≤ n
  und : underF xs ≤ n
theorem Inv.ok {n : Nat} {xs : List Wr} (h : Inv n xs) (hn : n ≤ 1099511627776) : Okx xs := ⟨h.nodup, h.wf, Nat.le_trans h.len hn⟩
theorem ixW_none : ∀ (xs : List Wr) (p : Int), ¬ ixW xs p < xs.length → p ∉ xs.map (·.p)
  | [], _, _, h => by cases h
  | q :: r, p, h, hm => by
    unfold ixW at h
    by_cases e : p = q.p
    · rw [if_pos e] at h; exact h (by simp)
    · rw [if_neg e] at h
      rcases List.mem_cons.1 hm with hm | hm
      · exact e hm
      · exact ixW_none r p (fun h' => h (by simp only [List.length_cons]; omega)) hm
theorem inv_of {n : Nat} {xs : List Wr} {p : Int} (h : Inv n xs) (hp : (Lit.int .i64 p).wf = true) : Inv (n + 1) (ofF xs p) := by
  have hu := under_of xs p
  have h1 := h.len
  have h2 := h.und
  by_cases e : ixW xs p < xs.length
  · have e2 : ofF xs p = xs := by unfold ofF; rw [if_pos e]
    rw [e2] at hu ⊢
    exact ⟨h.nodup, h.wf, by omega, by omega⟩
  · have e2 : ofF xs p = xs ++ [newW p] := by unfold ofF; rw [if_neg e]
    rw [e2] at hu ⊢
    refine ⟨?_, fun q hq => ?_, by rw [List.length_append, List.length_singleton]; omega, by omega⟩
    · rw [List.map_append]
      refine List.nodup_append.2 ⟨h.nodup, by simp, fun a ha b hb => ?_⟩
      rw [List.map_singleton, List.mem_singleton] at hb
      intro e3
      rw [hb] at e3
      exact ixW_none xs p e (by rw [show p = (newW p).p from rfl, ← e3]; exact ha)
    · rcases List.mem_append.1 hq with hq | hq
      · exact h.wf q hq
      · rw [List.mem_singleton] at hq; subst hq; exact hp
theorem ofF_p (xs : List Wr) (p : Int) : ((ofF xs p).getD (ixW xs p) default).p = p := by
  by_cases e : ixW xs p < xs.length
  · have e2 : ofF xs p = xs := by unfold ofF; rw [if_pos e]
    rw [e2]
    by_cases hm : p ∈ xs.map (·.p)
    · exact (ixW_mem xs p hm).2
    · exfalso
      exact hm (by
        clear e2 hm
        induction xs with
        | nil => simp at e
        | cons q r ih =>
          unfold ixW at e
          by_cases e4 : p = q.p
          · rw [e4]; simp
          · rw [if_neg e4] at e
            have := ih (by simp only [List.length_cons] at e; omega)
            rw [List.map_cons]; exact List.mem_cons_of_mem _ this)
  · have e2 : ofF xs p = xs ++ [newW p] := by unfold ofF; rw [if_neg e]
    have h1 := ixW_le xs p
    rw [e2, List.getD_eq_getElem?_getD, List.getElem?_append_right (by omega), show ixW xs p - xs.length = 0 by omega]
    rfl
theorem getD_atW {l : List Wr} {i : Nat} (h : i < l.length) : l.getD i default = l[i] := by rw [List.getD_eq_getElem?_getD, List.getElem?_eq_getElem h]; rfl
theorem map_set_p {xs : List Wr} {i : Nat} {q : Wr} (h : i < xs.length) (hq : q.p = (xs.getD i default).p) : (xs.set i q).map (·.p) = xs.map (·.p) := by
  rw [List.map_set, hq]
  apply List.ext_getElem (by simp)
  intro j h1 h2
  rw [List.getElem_set]
  split
  · rename_i e
    subst e
    rw [List.getElem_map, getD_atW h]
  · rfl
theorem inv_set {n : Nat} {xs : List Wr} {i k : Nat} {q : Wr} (h : Inv n xs) (hi : i < xs.length) (hq : q.p = (xs.getD i default).p) (hs : wSize q ≤ wSize (xs.getD i default) + k) : Inv (n + k) (xs.set i q) := by
  have h1 := h.len
  have h2 := h.und
  have h3 := under_set xs i q k hi hs
  have hm := map_set_p hi hq
  refine ⟨by rw [hm]; exact h.nodup, fun r hr => ?_, by rw [List.length_set]; omega, by omega⟩
  have : r.p ∈ (xs.set i q).map (·.p) := List.mem_map.2 ⟨r, hr, rfl⟩
  rw [hm] at this
  obtain ⟨r', hr', e⟩ := List.mem_map.1 this
  rw [← e]; exact h.wf r' hr'
theorem inv_setF {n : Nat} {xs : List Wr} {p m : Int} (h : Inv n xs) (hp : (Lit.int .i64 p).wf = true) : Inv (n + 1) (setF xs p m) := by
  unfold setF
  split
  · exact ⟨h.nodup, h.wf, Nat.le_succ_of_le h.len, Nat.le_succ_of_le h.und⟩
  · exact inv_set (k := 0) (inv_of h hp) (ixW_ofF xs p) rfl (Nat.le_refl _)
theorem inv_step {n : Nat} {s : List Wr × List Tel} {t : Tel} (h : Inv n s.1) (hp : (Lit.int .i64 t.1).wf = true) : Inv (n + 1) (stepF s t).1 := by
  have h1 := inv_of h hp
  have h2 := inv_set (k := 1) h1 (ixW_ofF s.1 t.1) (inW_p ((ofF s.1 t.1).getD (ixW s.1 t.1) default) t.2) (inW_le _ _)
  refine ⟨h2.nodup, h2.wf, ?_, ?_⟩
  · show ((ofF s.1 t.1).set _ _).length ≤ _
    rw [List.length_set]; exact h1.len
  · have := (step_le s t).1
    have := h.und
    omega
theorem inv_pass {n : Nat} {xs : List Wr} {l : List Tel} (h : Inv n xs) (hp : ∀ t ∈ l, (Lit.int .i64 t.1).wf = true) : Inv (n + l.length) (passF xs l).1 := by
  have h0 : Inv n (xs.map readyW) := by
    have hm : (xs.map readyW).map (·.p) = xs.map (·.p) := by rw [List.map_map]; rfl
    refine ⟨by rw [hm]; exact h.nodup, fun q hq => ?_, by rw [List.length_map]; exact h.len, Nat.le_trans (under_ready xs) h.und⟩
    obtain ⟨r, hr, rfl⟩ := List.mem_map.1 hq
    exact h.wf r hr
  unfold passF
  have key : ∀ (l : List Tel) (s : List Wr × List Tel) (n : Nat), Inv n s.1 → (∀ t ∈ l, (Lit.int .i64 t.1).wf = true) → Inv (n + l.length) (l.foldl stepF s).1 := by
    intro l
    induction l with
    | nil => intro s n h _; exact h
    | cons t l ih =>
      intro s n h hp
      rw [List.foldl_cons, List.length_cons]
      have := ih (stepF s t) (n + 1) (inv_step h (hp t (by simp))) (fun t' ht' => hp t' (by simp [ht']))
      rw [show n + (l.length + 1) = n + 1 + l.length by omega]; exact this
  exact key l _ n h0 hp
end Go.Proofs.Ytoaajdmacngnjaa
namespace Go.Proofs.Ytoaajdmacngnjaa
open Go.RowKit Go.BK Go.ChangeShapes Go.WideShapes Go.ChangeAt Go.ChangeMaps Go.Deep
section
variable {H : Type} {enc : TypeId × Value → H} {P : Program} {W : World}
/-- What is read as type e is f of something of which Q holds, and whose measure is at most the reading's bulk. -/
def OpensU (enc : TypeId × Value → H) (P : Program) (W : World) (e : TypeId) {α : Type} (f : α → List Value) (Q : α → Prop) (μ : α → Nat) : Prop :=
  ∀ n cs x, DataW.trod enc P W 0 (fun _ => true) true n e cs = some x → ∃ a, cs = f a ∧ Q a ∧ μ a ≤ Rows.uptoBulk x.1
theorem OpensU.map {e : TypeId} {α β : Type} {f : α → List Value} {Q : α → Prop} {μ : α → Nat} {f' : β → List Value} {Q' : β → Prop} {μ' : β → Nat} (h : OpensU enc P W e f Q μ) (g : α → β) (hf : ∀ a, Q a → f a = f' (g a)) (hQ : ∀ a, Q a → Q' (g a)) (hμ : ∀ a, Q a → μ' (g a) ≤ μ a) : OpensU enc P W e f' Q' μ' :=
  fun n cs x hx => by
    obtain ⟨a, h1, h2, h3⟩ := h n cs x hx
    exact ⟨g a, by rw [h1, hf a h2], hQ a h2, Nat.le_trans (hμ a h2) h3⟩
theorem OpensU.int {e : TypeId} {k : IntKind} (hu : P.underlying e = some (.int k)) : OpensU enc P W e (fun a : Int => [.int k a]) (fun a => (Lit.int k a).wf = true) (fun _ => 1) :=
  fun n cs x hx => by
    obtain ⟨a, h1, h3, h2⟩ := DataW.trod_int hu hx
    exact ⟨a, h1, h2, by rw [h3]; simp [Rows.uptoBulk]⟩
theorem OpensU.bool {e : TypeId} (hu : P.underlying e = some .bool) : OpensU enc P W e (fun a : Bool => [.bool a]) (fun _ => True) (fun _ => 1) :=
  fun n cs x hx => by
    obtain ⟨a, h1, h3⟩ := DataW.trod_bool hu hx
    exact ⟨a, h1, trivial, by rw [h3]; simp [Rows.uptoBulk]⟩
theorem OpensU.str {e : TypeId} (hu : P.underlying e = some .string) : OpensU enc P W e (fun l : List UInt8 => [str l]) (fun _ => True) (fun l => l.length + 1) :=
  fun n cs x hx => by
    obtain ⟨s, h1, h2, _⟩ := DataW.trod_string hu hx
    exact ⟨s.data.toList, by rw [h1], trivial, by rw [h2]; simp [Rows.uptoBulk]⟩
theorem bulk_sum {α : Type} {μ : α → Nat} {D : Nat → DataW H} : ∀ {xs : List α} {m : Nat}, (∀ i a, xs[i]? = some a → μ a ≤ Rows.uptoBulk (D (m + i))) → (xs.map μ).sum ≤ Rows.uptoBulkAll ((List.range' m xs.length).map D) := by
  intro xs
  induction xs with
  | nil => intro m _; simp [Rows.uptoBulkAll]
  | cons x r ih =>
    intro m h
    have h0 := h 0 x rfl
    have := ih (m := m + 1) fun i a hi => by
      have := h (i + 1) a (by simpa using hi)
      rwa [Nat.add_assoc, Nat.add_comm 1 i]
    simp only [List.map_cons, List.sum_cons, List.length_cons, List.range'_succ, Rows.uptoBulkAll]
    rw [Nat.add_zero] at h0
    omega
theorem OpensU.slice {t e : TypeId} {sz : Nat} {α : Type} {f : α → List Value} {Q : α → Prop} {μ : α → Nat} (ht : P.underlying t = some (.slice e)) (hsz : P.cellsOf e = sz) (hpos : 0 < sz) (hf : ∀ a, (f a).length = sz) (h : OpensU enc P W e f Q μ) :
    OpensU enc P W t (fun p : Value × List α => [p.1]) (fun p => Sees W (fun _ => False) (.row sz p.1 p.2.length (p.2.flatMap f)) ∧ ∀ x ∈ p.2, Q x) (fun p => (p.2.map μ).sum + 1) := by
  intro n cs x hx
  rcases open_slice ht hx with ⟨h1, h2⟩ | ⟨a, len, cap, m, n', D, Pl, rfl, _, hl, _, hmm, rfl, hel⟩
  · exact ⟨(.slice none 0 0, []), h1, ⟨Sees.nilRow, fun x hx => by cases hx⟩, by rw [h2]; simp [Rows.uptoBulk]⟩
  · simp only [↓reduceIte] at hmm
    subst hmm
    have hmem : ∀ i, i < len → ∃ q : α, (∃ cs', W.cells? 0 (a.add (i * P.cellsOf e)) (P.cellsOf e) = some cs' ∧ cs' = f q) ∧ Q q ∧ μ q ≤ Rows.uptoBulk (D i) := fun i hi => by
      obtain ⟨cs', h1, h2⟩ := hel i (by omega)
      obtain ⟨q, h3, h4⟩ := h n' cs' _ h2
      exact ⟨q, ⟨cs', h1, h3⟩, h4⟩
    obtain ⟨xs, hxl, hxs⟩ := exists_list len hmem
    refine ⟨(.slice (some a) len m, xs), rfl, ⟨?_, fun q hq => ?_⟩, ?_⟩
    · simp only []
      rw [hxl]
      have hfl : (xs.flatMap f).length = len * sz := by rw [flat_length hf, hxl]
      refine row_of_cells hfl hl hpos fun k u hk => ?_
      obtain ⟨i, j, q, h1, h2, h3, h4⟩ := flat_at hf hk
      obtain ⟨⟨cs', h5, h6⟩, _⟩ := hxs i q h3
      obtain ⟨_, hlen, hcell⟩ := World.cells?_some h5
      have := hcell j (by rw [hsz]; exact h2)
      rw [add_add, hsz, ← h1] at this
      rw [this, h6, h4]
    · obtain ⟨i, hi, rfl⟩ := List.getElem_of_mem hq
      exact (hxs i _ (List.getElem?_eq_getElem hi)).2.1
    · have := bulk_sum (μ := μ) (D := D) (xs := xs) (m := 0) fun i a hi => by rw [Nat.zero_add]; exact (hxs i a hi).2.2
      rw [hxl, ← List.range_eq_range'] at this
      simp only [Rows.uptoBulk]
      omega
/-- Fields, from a place on. -/
def FOU (enc : TypeId × Value → H) (P : Program) (W : World) (off : Nat) (fs : List Field) {α : Type} (f : α → List Value) (Q : α → Prop) (μ : α → Nat) : Prop :=
  ∀ n (cs : List Value) (xs : List (DataW H × List MemPlace)), cs.length = off + (fs.map fun g => P.cellsOf g.type).sum → xs.length = fs.length →
    (∀ (i : Nat) (g : Field), fs[i]? = some g → DataW.trod enc P W 0 (fun _ => true) true n g.type ((cs.drop g.offset).take (P.cellsOf g.type)) = xs[i]?) → ∃ a, cs.drop off = f a ∧ Q a ∧ μ a ≤ Rows.uptoBulkAll (xs.map (·.1))
theorem FOU.nil {off : Nat} : FOU enc P W off [] (fun _ : Unit => []) (fun _ => True) (fun _ => 0) := fun n cs xs hl _ _ => ⟨(), by simp at hl; simp [hl], trivial, Nat.zero_le _⟩
theorem FOU.cons {off off' : Nat} {g : Field} {fs : List Field} {α β : Type} {f1 : α → List Value} {Q1 : α → Prop} {μ1 : α → Nat} {f2 : β → List Value} {Q2 : β → Prop} {μ2 : β → Nat} (h1 : OpensU enc P W g.type f1 Q1 μ1) (ho : g.offset = off) (hoff : off + P.cellsOf g.type = off') (h2 : FOU enc P W off' fs f2 Q2 μ2) :
    FOU enc P W off (g :: fs) (fun p : α × β => f1 p.1 ++ f2 p.2) (fun p => Q1 p.1 ∧ Q2 p.2) (fun p => μ1 p.1 + μ2 p.2) := by
  intro n cs xs hl hxl hx
  cases xs with
  | nil => simp at hxl
  | cons x xs =>
    subst hoff
    obtain ⟨a, ha, qa, ma⟩ := h1 n _ x (hx 0 g rfl)
    obtain ⟨b, hb, qb, mb⟩ := h2 n cs xs (by simp at hl; omega) (by simpa using hxl) (fun i g' hg => by simpa using hx (i + 1) g' (by simpa using hg))
    refine ⟨(a, b), ?_, ⟨qa, qb⟩, by simp only [List.map_cons, Rows.uptoBulkAll]; omega⟩
    simp only []
    rw [← ha, ← hb, ho, ← List.drop_drop, List.take_append_drop]
theorem OpensU.struct {t : TypeId} {fs : Array Field} {α : Type} {f : α → List Value} {Q : α → Prop} {μ : α → Nat} (hu : P.underlying t = some (.struct fs)) (hc : P.cellsOf t = (fs.toList.map fun g => P.cellsOf g.type).sum) (h : FOU enc P W 0 fs.toList f Q μ) : OpensU enc P W t f Q (fun a => μ a + 1) := by
  intro n cs x hx
  obtain ⟨xs, n', _, rfl, hl, hxl, hel⟩ := DataW.trod_struct hu hx
  obtain ⟨a, h1, h2, h3⟩ := h n' cs xs (by rw [hl, hc]; omega) (by simpa using hxl) (fun i g hg => hel i g (by simpa using hg))
  exact ⟨a, by simpa using h1, h2, by simp only [Rows.uptoBulk]; omega⟩
/-- An argument, opened. -/
theorem OpensU.arg {t : TypeId} {α : Type} {f : α → List Value} {Q : α → Prop} {μ : α → Nat} (h : OpensU enc P W t f Q μ) {v : Value} {d : DataW H} {ps : List MemPlace} (hd : DataW.Trod enc P W 0 (fun _ => true) true t v d ps) : ∃ a, v.cells.toList = f a ∧ Q a ∧ μ a ≤ Rows.uptoBulk d := by
  obtain ⟨n, hn⟩ := hd
  exact h n _ _ hn
theorem argU_slice {t e : TypeId} {sz : Nat} {α : Type} {f : α → List Value} {Q : α → Prop} {μ : α → Nat} (ht : P.underlying t = some (.slice e)) (hsz : P.cellsOf e = sz) (hpos : 0 < sz) (hf : ∀ a, (f a).length = sz) (h : OpensU enc P W e f Q μ)
    {base : Nat} {v : Value} {d : DataW H} {ps : List MemPlace} (hval : Value.okWide P W .any base t v) (hd : DataW.Trod enc P W 0 (fun _ => true) true t v d ps) :
    ∃ xs : List α, Sees W (fun _ => False) (.row sz v xs.length (xs.flatMap f)) ∧ (∀ x ∈ xs, Q x) ∧ (xs.map μ).sum + 1 ≤ Rows.uptoBulk d := by
  obtain ⟨a0, len, cap, rfl⟩ := okWide_slice ht hval
  obtain ⟨⟨u, xs⟩, h1, ⟨h2, h3⟩, h4⟩ := (OpensU.slice ht hsz hpos hf h).arg hd
  have : u = .slice a0 len cap := by simpa [Value.cells] using h1.symm
  subst this
  exact ⟨xs, h2, h3, h4⟩
/-- A law of the second form: its call answers true, and turns nothing that was there. -/
theorem law_liftedU {C : Checked} {os : Os} {f : FuncId} {fn : Func} {s : ChangeSpec} {F : Stop.Interp} {conds : List PathCond} {tb : TypeId}
    (own : ownKnob C.prog.godebug = none) (started : os.Started) (noInit : C.prog.inits.idxOf? f = none) (hfn : C.prog.funcs[f]? = some fn) (hb : fn.resultTypes = #[tb]) (hub : C.prog.underlying tb = some .bool) (hv : s.vars = [])
    (hl : laidOutB C.prog = true) (hread : (fn.params.toList.all fun t => C.prog.readableRec t && decide (t < C.prog.types.size)) = true)
    (hs : ∀ ds : List (DataW H), ds.length = fn.params.toList.length → s.fn H ds = { results := [.lit (.bool true)], args := ds })
    (witness : ∃ (w : World) (tape : Tape) (i : Input), w.os = os ∧ (w.forCall tape i).Shaped C.prog ∧ i.vars = [] ∧ Input.okWide C.prog (w.forCall tape i) .any w.heap.size f i ∧
      (Rows.OpenSpec.upto s).pre6 enc C.prog fn conds false (w.forCall tape i).memory i.args ∧ (({} : Assume)).holds C.prog (lone (Frame.enter C.prog f i.args .normal) [] (w.forCall tape i)))
    (contract : ∀ (W : World) (base : Nat) (args : Array Value) (ds : List (DataW H)) (p : List MemPlace),
      (∀ (j : Nat) t v, fn.params[j]? = some t → args[j]? = some v → Value.okWide C.prog W .any base t v) → DataW.TrodAll enc C.prog W 0 (fun _ => true) true fn.params.toList args.toList ds p →
      Rows.uptoBulkAll ds ≤ 1048576 → Calls C.prog f args W fun e W' => e = .returned (.bool true) ∧ Below W.heap.size W W') :
    ReturnsInHanded {} C os f .any ((Rows.OpenSpec.upto s).pre6 enc C.prog fn conds false) (((Rows.OpenSpec.upto s).at F).post enc C.prog fn false true false false) := by
  refine returnsInHanded_of_cond (s := Rows.OpenSpec.upto s) (k := Rows.uptoSmall) rfl own started noInit hfn witness ?_
  intro W base args ds gs before hval hW _ hk _
  have hW' := hW
  obtain ⟨p, q, hA, hV, rfl, _, _⟩ := hW
  rw [show (Rows.OpenSpec.upto s).vars = s.vars from rfl, hv] at hV
  obtain ⟨rfl, rfl⟩ := trodVars_none hV
  have hbulk : Rows.uptoBulkAll ds ≤ 1048576 := by
    have : Rows.uptoBulkAll (ds ++ []) ≤ 1048576 := of_decide_eq_true hk
    rwa [List.append_nil] at this
  refine (contract W base args ds p hval hA hbulk).mono fun e W' ⟨he, hbel⟩ => ?_
  have hds : ds.length = fn.params.toList.length := trodAll_length _ _ _ _ hA
  have hlt : ∀ x ∈ p, x.block < W.heap.size := fun x hx => hW'.lt x (List.mem_append_left _ hx)
  have hfn' : ((Rows.OpenSpec.upto s).at F).fn = s.fn := rfl
  have hvars' : ((Rows.OpenSpec.upto s).at F).vars = s.vars := rfl
  refine ⟨_, he, ds, [], p ++ [], [], p, [], hW', ?_, ?_, ?_, hbel.frame _, fun h => by cases h⟩
  · rw [List.append_nil, hfn', hs ds hds, hb]
    simp only [Value.resultList]
    exact ⟨[], [], shut_bool hub true, rfl, rfl⟩
  · rw [List.append_nil, hfn', hs ds hds]
    exact trodAll_stay hl hbel _ _ _ _ (fun t ht => by
      have := List.all_eq_true.1 hread t ht
      simpa using this) hA hlt
  · rw [List.append_nil, hfn', hs ds hds, hvars', hv]; rfl
end
end Go.Proofs.Ytoaajdmacngnjaa
namespace Go.Proofs.Ytoaajdmacngnjaa
open Go.RowKit Go.BK
theorem Try.own : ownKnob Try.prog.godebug = none := by kernel_rfl
theorem Try.laidOut : laidOutB Try.prog = true := by kernel_rfl
end Go.Proofs.Ytoaajdmacngnjaa
namespace Go.Proofs.Ytoaajdmacngnjaa
open Go.RowKit Go.BK Go.Deep Go.ChangeShapes Go.WideShapes Go.ChangeAt
def telMu (t : Tel) : Nat := t.2.length + 1
def opMuX (o : OpW) : Nat := (o.ls.map telMu).sum + 1
structure OpW.In (o : OpW) (w : World) (S : BSet) : Prop where
  row : Sees w S (.row 2 o.v o.ls.length (o.ls.flatMap telC))
  wp : (Lit.int .i64 o.p).wf = true
  wt : ∀ t ∈ o.ls, (Lit.int .i64 t.1).wf = true
section
variable {H : Type} {enc : TypeId × Value → H} {W : World}
theorem opensU_tel : OpensU enc Try.prog W 34 telC (fun t => (Lit.int .i64 t.1).wf = true) telMu :=
  (OpensU.struct Try.underlying34 (by kernel_rfl) (FOU.cons (off' := 1) (OpensU.int Try.underlying3) (by kernel_rfl) (by kernel_rfl) (FOU.cons (off' := 2) (OpensU.str Try.underlying9) (by kernel_rfl) (by kernel_rfl) FOU.nil))).map
    (fun p => (p.1, p.2.1)) (fun _ _ => rfl) (fun _ h => h.1) (fun p _ => by unfold telMu; simp only []; omega)
theorem opensU_opw : OpensU enc Try.prog W 30 opWC (fun o => o.In W (fun _ => False)) opMuX :=
  (OpensU.struct Try.underlying30 (by kernel_rfl) (FOU.cons (off' := 1) (OpensU.bool Try.underlying4) (by kernel_rfl) (by kernel_rfl) (FOU.cons (off' := 2) (OpensU.int Try.underlying3) (by kernel_rfl) (by kernel_rfl) (FOU.cons (off' := 3) (OpensU.int Try.underlying3) (by kernel_rfl) (by kernel_rfl)
    (FOU.cons (off' := 4) (OpensU.slice (sz := 2) Try.underlying28 (by kernel_rfl) (by decide) (fun _ => rfl) opensU_tel) (by kernel_rfl) (by kernel_rfl) FOU.nil))))).map
    (fun p => OpW.mk p.1 p.2.1 p.2.2.1 p.2.2.2.1.1 p.2.2.2.1.2) (fun _ _ => rfl) (fun p h => ⟨h.2.2.2.1.1, h.2.1, h.2.2.2.1.2⟩) (fun p _ => by unfold opMuX; simp only []; omega)
end
theorem tels_small : ∀ {xs : List Tel} {B : Nat}, (xs.map telMu).sum ≤ B → xs.length ≤ B ∧ ∀ t ∈ xs, t.2.length ≤ B := by
  intro xs
  induction xs with
  | nil => intro B _; exact ⟨by simp, fun i h => by cases h⟩
  | cons x r ih =>
    intro B h
    simp only [List.map_cons, List.sum_cons] at h
    unfold telMu at h ih
    obtain ⟨h2, h3⟩ := ih (B := B - (x.2.length + 1)) (by omega)
    refine ⟨by simp only [List.length_cons]; omega, fun i hi => ?_⟩
    rcases List.mem_cons.1 hi with rfl | hi
    · omega
    · have := h3 i hi; omega
theorem ops_small : ∀ {os : List OpW} {B : Nat}, (os.map opMuX).sum ≤ B → muW os ≤ B ∧ ∀ o ∈ os, ∀ t ∈ o.ls, t.2.length ≤ B := by
  intro os
  induction os with
  | nil => intro B _; exact ⟨by simp [muW], fun i h => by cases h⟩
  | cons x r ih =>
    intro B h
    simp only [List.map_cons, List.sum_cons] at h
    obtain ⟨h2, h3⟩ := ih (B := B - opMuX x) (by omega)
    obtain ⟨h4, h5⟩ := tels_small (xs := x.ls) (B := opMuX x - 1) (by unfold opMuX; omega)
    have h6 : 1 ≤ opMuX x := by unfold opMuX; omega
    refine ⟨?_, fun i hi => ?_⟩
    · unfold muW at h2 ⊢
      rw [List.map_cons, List.sum_cons]
      unfold opMuW at h2 ⊢
      omega
    · rcases List.mem_cons.1 hi with rfl | hi
      · intro t ht; have := h5 t ht; omega
      · intro t ht; have := h3 i hi t ht; omega
theorem ops_good {os : List OpW} {w : World} {S : BSet} (h : ∀ o ∈ os, o.In w S) (hl : ∀ o ∈ os, ∀ t ∈ o.ls, t.2.length ≤ 1048576) : ∀ o ∈ os, o.Good w S := fun o ho =>
  ⟨(h o ho).row, (h o ho).wp, fun t ht => ⟨(h o ho).wt t ht, Nat.le_trans (hl o ho t ht) (by decide)⟩⟩
end Go.Proofs.Ytoaajdmacngnjaa
namespace Go.Proofs.Ytoaajdmacngnjaa
open Go.RowKit Go.BK
theorem muW_take (os : List OpW) (i : Nat) (h : i < os.length) : muW (os.take (i + 1)) = muW (os.take i) + opMuW (os.getD i default) := by
  unfold muW
  rw [List.take_add_one, List.getElem?_eq_getElem h, List.map_append, List.sum_append, List.getD_eq_getElem?_getD, List.getElem?_eq_getElem h]
  simp
theorem muW_le (os : List OpW) (i : Nat) : muW (os.take i) ≤ muW os := by
  unfold muW
  conv => rhs; rw [← List.take_append_drop i os, List.map_append, List.sum_append]
  omega
theorem flat_tel (l : List Tel) : (l.flatMap telC).length = l.length * 2 := by
  induction l with
  | nil => rfl
  | cons t l ih => rw [List.flatMap_cons, List.length_append, ih, List.length_cons]; show 2 + _ = _; omega
theorem opW_one {o : OpW} {w : World} {S : BSet} (h : o.Good w S) : (opWC o).all (·.oneCell') = true := by
  have h1 := h.row.row_one
  simp [opWC, h1]
  exact ⟨rfl, rfl, rfl⟩
theorem inv_nil (n : Nat) : Inv n [] := ⟨List.nodup_nil, (fun q h => by cases h), Nat.zero_le _, Nat.zero_le _⟩
theorem len_mu : ∀ os : List OpW, os.length ≤ muW os
  | [] => Nat.zero_le _
  | o :: r => by
    have h := len_mu r
    unfold muW at h ⊢
    rw [List.map_cons, List.sum_cons, List.length_cons]
    have : 1 ≤ opMuW o := by unfold opMuW; omega
    omega
end Go.Proofs.Ytoaajdmacngnjaa
namespace Go.Proofs.Ytoaajdmacngnjaa
open Go.RowKit Go.BK
/-- What a map says of modes. -/
def ModeIs (m : List (Int × Value)) (md : Int → Int) : Prop := ∀ p, (mget p m).getD (i64 0) = i64 (md p)
def docH (rb : Nat) (md : Int → Int) (due held : List Tel) : HP := .ex fun a : (Nat × List (Int × Value)) × Value × Value => sepL [.pure (ModeIs a.1.2 md), .blk rb #[.map (some a.1.1), a.2.1, a.2.2] 52, .imap a.1.1 a.1.2, .own 34 2 (a.2.1) (due).length ((due).flatMap telC), .own 34 2 (a.2.2) (held).length ((held).flatMap telC)]
section
variable {P : Program} {w0 : World} {S0 : BSet} {n : Nat} {F : Fr} {A r : List HP} {ops : Array Oper} {Q : Exit → Act → World → Prop} {rest : List Oper} {rb : Nat} {md : Int → Int} {due held : List Tel}
theorem St.openD {w : World} (ht : Take (docH rb md due held) A r) (h : St w0 S0 A w) : ∃ (o : Nat) (m : List (Int × Value)) (vd vh : Value), ModeIs m md ∧ St w0 S0 (.blk rb #[.map (some o), vd, vh] 52 :: .imap o m :: .own 34 2 (vd) (due).length ((due).flatMap telC) :: .own 34 2 (vh) (held).length ((held).flatMap telC) :: r) w := by
  obtain ⟨⟨⟨o, m⟩, vd, vh⟩, h1⟩ := St.exH ht h
  have h2 := St.unpack (LR := .pure (ModeIs m md) :: .blk rb #[.map (some o), vd, vh] 52 :: .imap o m :: .own 34 2 (vd) (due).length ((due).flatMap telC) :: .own 34 2 (vh) (held).length ((held).flatMap telC) :: r) .head rfl h1
  obtain ⟨h3, h4⟩ := St.pureH .head h2
  exact ⟨o, m, vd, vh, h3, h4⟩
theorem St.shutD {w : World} {o : Nat} {m : List (Int × Value)} {vd vh : Value} (hm : ModeIs m md) (t : TakeL [.blk rb #[.map (some o), vd, vh] 52, .imap o m, .own 34 2 (vd) (due).length ((due).flatMap telC), .own 34 2 (vh) (held).length ((held).flatMap telC)] A r) (hs : St w0 S0 A w) : St w0 S0 (docH rb md due held :: r) w := by
  have h2 : St w0 S0 (.blk rb #[.map (some o), vd, vh] 52 :: .imap o m :: .own 34 2 (vd) (due).length ((due).flatMap telC) :: .own 34 2 (vh) (held).length ((held).flatMap telC) :: r) w := St.unpack .head rfl (St.pack t hs)
  have h4 := St.pack (L := [.pure (ModeIs m md), .blk rb #[.map (some o), vd, vh] 52, .imap o m, .own 34 2 (vd) (due).length ((due).flatMap telC), .own 34 2 (vh) (held).length ((held).flatMap telC)]) (r := r) (by repeat constructor) (St.inPure hm h2)
  exact St.inEx (f := fun a : (Nat × List (Int × Value)) × Value × Value => sepL [.pure (ModeIs a.1.2 md), .blk rb #[.map (some a.1.1), a.2.1, a.2.2] 52, .imap a.1.1 a.1.2, .own 34 2 (a.2.1) (due).length ((due).flatMap telC), .own 34 2 (a.2.2) (held).length ((held).flatMap telC)]) ((o, m), vd, vh) h4
theorem WC.openD {c : Code} (ht : Take (docH rb md due held) A r) (kk : ∀ (o : Nat) (m : List (Int × Value)) (vd vh : Value), ModeIs m md → WC P w0 S0 n c Q F (.blk rb #[.map (some o), vd, vh] 52 :: .imap o m :: .own 34 2 (vd) (due).length ((due).flatMap telC) :: .own 34 2 (vh) (held).length ((held).flatMap telC) :: r)) : WC P w0 S0 n c Q F A :=
  ⟨fun a w ha hs => by obtain ⟨x, y, z, u, h1, h⟩ := St.openD ht hs; exact (kk x y z u h1).go a w ha h⟩
theorem WE.shutD {e : Exit} {o : Nat} {m : List (Int × Value)} {vd vh : Value} (hm : ModeIs m md) (t : TakeL [.blk rb #[.map (some o), vd, vh] 52, .imap o m, .own 34 2 (vd) (due).length ((due).flatMap telC), .own 34 2 (vh) (held).length ((held).flatMap telC)] A r) (kk : WE w0 S0 n Q e F (docH rb md due held :: r)) : WE w0 S0 n Q e F A := kk.conv fun _ hs => St.shutD hm t hs
theorem Sees.openD {w : World} {S : BSet} (h : Sees w S (docH rb md due held)) : ∃ (o : Nat) (m : List (Int × Value)) (vd vh : Value), ModeIs m md ∧ Sees w S (.blk rb #[.map (some o), vd, vh] 52) ∧ Sees w S (.imap o m) ∧ Sees w S (.own 34 2 (vd) (due).length ((due).flatMap telC)) ∧ Sees w S (.own 34 2 (vh) (held).length ((held).flatMap telC)) := by
  obtain ⟨⟨⟨o, m⟩, vd, vh⟩, h1⟩ := Sees.ex h
  exact ⟨o, m, vd, vh, (h1.part .head).isPure, h1.part (.tail .head), h1.part (.tail (.tail .head)), h1.part (.tail (.tail (.tail .head))), h1.part (.tail (.tail (.tail (.tail .head))))⟩
end
theorem rwnew_spec  (w : World) (S : BSet) (hS : (sepL []).sat S w)  :
    Tri Try.prog 11 #[] w S fun u A => ∃ rb, u = ptr rb 0 ∧ A = [docH rb (fun _ => 0) [] []] := by
  refine Tri.enter (l := []) Try.func11 rfl Try.ntmps11 rfl [] (subA rfl) hS ?_
  repeat first
    | (apply WL.q; exact rfl; exact rfl; exact rfl; (first | (apply EvW.assign; exact rfl) | (apply EvW.build; exact PlC.eq; exact ZvC.eq; exact rfl; exact rfl; (focus ((repeat (first | exact Fills.nil | (apply Fills.cons; exact rfl; (first | assumption | exact rfl); exact rfl) | exact SetMany.nil | apply SetMany.cons | apply SetMany.succ)); done)))))
    | refine WC.seq ?_ | refine WC.region ?_ | refine WL.nil ?_ | refine WE.next ?_ | refine WC.skip ?_ | refine WC.exit ?_ | refine WE.pass ?_ | refine WE.hit ?_ | refine WE.miss rfl ?_ | refine WE.out ?_ | refine WC.ret ?_ | refine WE.passRet ?_ | refine WE.outRet ?_ | refine WL.wanted rfl rfl rfl ?_
  try refine WL.wanted rfl rfl rfl ?_
  (apply WL.makeMap; exact rfl; intro o)
  repeat first
    | (apply WL.q; exact rfl; exact rfl; exact rfl; (first | (apply EvW.assign; exact rfl) | (apply EvW.build; exact PlC.eq; exact ZvC.eq; exact rfl; exact rfl; (focus ((repeat (first | exact Fills.nil | (apply Fills.cons; exact rfl; (first | assumption | exact rfl); exact rfl) | exact SetMany.nil | apply SetMany.cons | apply SetMany.succ)); done)))))
    | refine WC.seq ?_ | refine WC.region ?_ | refine WL.nil ?_ | refine WE.next ?_ | refine WC.skip ?_ | refine WC.exit ?_ | refine WE.pass ?_ | refine WE.hit ?_ | refine WE.miss rfl ?_ | refine WE.out ?_ | refine WC.ret ?_ | refine WE.passRet ?_ | refine WE.outRet ?_ | refine WL.wanted rfl rfl rfl ?_
  try refine WL.wanted rfl rfl rfl ?_
  (apply WL.box; exact rfl; exact rfl; exact rfl; intro rb)
  repeat first
    | (apply WL.q; exact rfl; exact rfl; exact rfl; (first | (apply EvW.assign; exact rfl) | (apply EvW.build; exact PlC.eq; exact ZvC.eq; exact rfl; exact rfl; (focus ((repeat (first | exact Fills.nil | (apply Fills.cons; exact rfl; (first | assumption | exact rfl); exact rfl) | exact SetMany.nil | apply SetMany.cons | apply SetMany.succ)); done)))))
    | refine WC.seq ?_ | refine WC.region ?_ | refine WL.nil ?_ | refine WE.next ?_ | refine WC.skip ?_ | refine WC.exit ?_ | refine WE.pass ?_ | refine WE.hit ?_ | refine WE.miss rfl ?_ | refine WE.out ?_ | refine WC.ret ?_ | refine WE.passRet ?_ | refine WE.outRet ?_ | refine WL.wanted rfl rfl rfl ?_
  refine WE.conv (fun _ hs => (hs.ownNil (e := 34) (sz := 2)).ownNil (e := 34) (sz := 2)) ?_
  refine WE.shutD (o := o) (m := []) (vd := (.slice none 0 0)) (vh := (.slice none 0 0)) (due := []) (held := []) (fun _ => rfl) (by repeat constructor) ?_
  refine WE.keep (xs := [docH rb (fun _ => 0) [] []]) (by repeat constructor) ?_
  refine WE.ret1 rfl rfl ?_
  exact ⟨rb, rfl, rfl⟩
def setD (md : Int → Int) (p m : Int) : Int → Int := if m < 0 ∨ 5 < m then md else fun x => if x = p then m else md x
theorem rset20_spec (rb : Nat) (md : Int → Int) (due held : List Tel) (p m : Int) (w : World) (S : BSet) (hS : (sepL [docH rb md due held]).sat S w)  :
    Tri Try.prog 13 #[ptr rb 0, i64 p, i64 m] w S fun u A => u = i64 (if m < 0 ∨ 5 < m then 33 else 0) ∧ A = [docH rb (setD md p m) due held] := by
  refine Tri.enter (l := [ptr rb 0, i64 p, i64 m]) Try.func13 rfl Try.ntmps13 rfl [(0, ptr rb 0), (1, i64 p), (2, i64 m)] (subA rfl) hS ?_
  by_cases h0 : m < 0
  · rw [if_pos (.inl h0), show setD md p m = md from by unfold setD; rw [if_pos (.inl h0)]]
    repeat first
      | (apply WL.q; exact rfl; exact rfl; exact rfl; (first | (apply EvW.move; exact rfl) | (apply EvW.assign; exact rfl) | (apply EvW.nilPtr; exact rfl) | (apply EvW.fieldAddr0; exact rfl; exact FldC.eq) | (apply EvW.fieldAddr; exact rfl; exact FldC.eq) | (apply EvW.load; exact rfl; exact ScalC.eq; (focus ((repeat constructor); done)); exact rfl) | (apply EvW.ldSeen; exact rfl; exact ScalC.eq; assumption; (first | exact rfl | assumption)) | (apply EvW.ldFld; exact rfl; exact ScalC.eq; assumption; exact fun _ => rfl; omega; exact rfl; exact inferInstance) | (apply EvW.cmpT; exact rfl; exact rfl; exact rfl; omega) | (apply EvW.cmpF; exact rfl; exact rfl; exact rfl; omega) | (apply EvW.cmp; exact rfl; exact rfl; exact rfl) | (apply EvW.pickT; exact rfl; exact rfl) | (apply EvW.pickF; exact rfl; exact rfl) | (apply EvW.fldRow; exact rfl; exact FldC.eq; assumption; omega) | (apply EvW.fldOwn; exact rfl; exact FldC.eq; (focus ((repeat constructor); done)); omega) | (apply EvW.nilElemOwn; exact rfl; (focus ((repeat constructor); done)); omega) | (apply EvW.nilElemRow; exact rfl; assumption; omega) | (apply EvW.ldFldOwn; exact rfl; exact ScalC.eq; (focus ((repeat constructor); done)); exact fun _ => rfl; omega; exact rfl; exact inferInstance)))
      | refine WC.seq ?_ | refine WC.region ?_ | refine WL.nil ?_ | refine WE.next ?_ | refine WC.skip ?_ | refine WC.exit ?_ | refine WE.pass ?_ | refine WE.hit ?_ | refine WE.miss rfl ?_ | refine WE.out ?_ | refine WC.condT rfl ?_ | refine WC.condF rfl ?_ | refine WC.ret ?_ | refine WE.passRet ?_ | refine WE.outRet ?_ | refine WL.wanted rfl rfl rfl ?_ | refine WL.unwanted rfl rfl rfl rfl ?_ | refine WL.unwantedU rfl rfl rfl rfl ?_ | refine WL.unwanted0 rfl rfl rfl ?_ | (apply WL.mapUpdate; exact rfl; exact rfl; exact rfl; exact UndC.eq; exact UndC.eq; (focus ((repeat (first | apply UpdM.head | apply UpdM.tail)); done)))
    refine WE.ret1 rfl rfl ?_
    exact ⟨rfl, rfl⟩
  by_cases h5 : 5 < m
  · rw [if_pos (.inr h5), show setD md p m = md from by unfold setD; rw [if_pos (.inr h5)]]
    repeat first
      | (apply WL.q; exact rfl; exact rfl; exact rfl; (first | (apply EvW.move; exact rfl) | (apply EvW.assign; exact rfl) | (apply EvW.nilPtr; exact rfl) | (apply EvW.fieldAddr0; exact rfl; exact FldC.eq) | (apply EvW.fieldAddr; exact rfl; exact FldC.eq) | (apply EvW.load; exact rfl; exact ScalC.eq; (focus ((repeat constructor); done)); exact rfl) | (apply EvW.ldSeen; exact rfl; exact ScalC.eq; assumption; (first | exact rfl | assumption)) | (apply EvW.ldFld; exact rfl; exact ScalC.eq; assumption; exact fun _ => rfl; omega; exact rfl; exact inferInstance) | (apply EvW.cmpT; exact rfl; exact rfl; exact rfl; omega) | (apply EvW.cmpF; exact rfl; exact rfl; exact rfl; omega) | (apply EvW.cmp; exact rfl; exact rfl; exact rfl) | (apply EvW.pickT; exact rfl; exact rfl) | (apply EvW.pickF; exact rfl; exact rfl) | (apply EvW.fldRow; exact rfl; exact FldC.eq; assumption; omega) | (apply EvW.fldOwn; exact rfl; exact FldC.eq; (focus ((repeat constructor); done)); omega) | (apply EvW.nilElemOwn; exact rfl; (focus ((repeat constructor); done)); omega) | (apply EvW.nilElemRow; exact rfl; assumption; omega) | (apply EvW.ldFldOwn; exact rfl; exact ScalC.eq; (focus ((repeat constructor); done)); exact fun _ => rfl; omega; exact rfl; exact inferInstance)))
      | refine WC.seq ?_ | refine WC.region ?_ | refine WL.nil ?_ | refine WE.next ?_ | refine WC.skip ?_ | refine WC.exit ?_ | refine WE.pass ?_ | refine WE.hit ?_ | refine WE.miss rfl ?_ | refine WE.out ?_ | refine WC.condT rfl ?_ | refine WC.condF rfl ?_ | refine WC.ret ?_ | refine WE.passRet ?_ | refine WE.outRet ?_ | refine WL.wanted rfl rfl rfl ?_ | refine WL.unwanted rfl rfl rfl rfl ?_ | refine WL.unwantedU rfl rfl rfl rfl ?_ | refine WL.unwanted0 rfl rfl rfl ?_ | (apply WL.mapUpdate; exact rfl; exact rfl; exact rfl; exact UndC.eq; exact UndC.eq; (focus ((repeat (first | apply UpdM.head | apply UpdM.tail)); done)))
    refine WE.ret1 rfl rfl ?_
    exact ⟨rfl, rfl⟩
  rw [if_neg (by omega), show setD md p m = fun x => if x = p then m else md x from by unfold setD; rw [if_neg (by omega)]]
  refine WC.openD .head fun o mm vd vh hm => ?_
  repeat first
    | (apply WL.q; exact rfl; exact rfl; exact rfl; (first | (apply EvW.move; exact rfl) | (apply EvW.assign; exact rfl) | (apply EvW.nilPtr; exact rfl) | (apply EvW.fieldAddr0; exact rfl; exact FldC.eq) | (apply EvW.fieldAddr; exact rfl; exact FldC.eq) | (apply EvW.load; exact rfl; exact ScalC.eq; (focus ((repeat constructor); done)); exact rfl) | (apply EvW.ldSeen; exact rfl; exact ScalC.eq; assumption; (first | exact rfl | assumption)) | (apply EvW.ldFld; exact rfl; exact ScalC.eq; assumption; exact fun _ => rfl; omega; exact rfl; exact inferInstance) | (apply EvW.cmpT; exact rfl; exact rfl; exact rfl; omega) | (apply EvW.cmpF; exact rfl; exact rfl; exact rfl; omega) | (apply EvW.cmp; exact rfl; exact rfl; exact rfl) | (apply EvW.pickT; exact rfl; exact rfl) | (apply EvW.pickF; exact rfl; exact rfl) | (apply EvW.fldRow; exact rfl; exact FldC.eq; assumption; omega) | (apply EvW.fldOwn; exact rfl; exact FldC.eq; (focus ((repeat constructor); done)); omega) | (apply EvW.nilElemOwn; exact rfl; (focus ((repeat constructor); done)); omega) | (apply EvW.nilElemRow; exact rfl; assumption; omega) | (apply EvW.ldFldOwn; exact rfl; exact ScalC.eq; (focus ((repeat constructor); done)); exact fun _ => rfl; omega; exact rfl; exact inferInstance)))
    | refine WC.seq ?_ | refine WC.region ?_ | refine WL.nil ?_ | refine WE.next ?_ | refine WC.skip ?_ | refine WC.exit ?_ | refine WE.pass ?_ | refine WE.hit ?_ | refine WE.miss rfl ?_ | refine WE.out ?_ | refine WC.condT rfl ?_ | refine WC.condF rfl ?_ | refine WC.ret ?_ | refine WE.passRet ?_ | refine WE.outRet ?_ | refine WL.wanted rfl rfl rfl ?_ | refine WL.unwanted rfl rfl rfl rfl ?_ | refine WL.unwantedU rfl rfl rfl rfl ?_ | refine WL.unwanted0 rfl rfl rfl ?_ | (apply WL.mapUpdate; exact rfl; exact rfl; exact rfl; exact UndC.eq; exact UndC.eq; (focus ((repeat (first | apply UpdM.head | apply UpdM.tail)); done)))
  refine WE.shutD (o := o) (m := mput p (i64 m) mm) (vd := vd) (vh := vh) (md := fun x => if x = p then m else md x) (fun x => by
    rw [mget_put]
    by_cases e : x = p
    · rw [if_pos e]; show i64 m = i64 (if x = p then m else md x); rw [if_pos e]
    · rw [if_neg e]; show _ = i64 (if x = p then m else md x); rw [if_neg e]; exact hm x) (by repeat constructor) ?_
  refine WE.keep (xs := [docH rb (fun x => if x = p then m else md x) due held]) (by repeat constructor) ?_
  refine WE.ret1 rfl rfl ?_
  exact ⟨rfl, rfl⟩
theorem rspoilt20_spec (s : Txt) (w : World) (S : BSet) (hS : (sepL []).sat S w) (hs : s.length ≤ 140737488355328) :
    Tri Try.prog 26 #[str s] w S fun u A => u = str (spoilF s) ∧ A = [] := by
  refine Tri.enter (l := [str s]) Try.func26 rfl Try.ntmps26 rfl [(0, str s)] (subA rfl) hS ?_
  by_cases h0 : s = []
  · subst h0
    repeat first
      | (apply WL.q; exact rfl; exact rfl; exact rfl; (first | (apply EvW.move; exact rfl) | (apply EvW.assign; exact rfl) | (apply EvW.load; exact rfl; exact ScalC.eq; (focus ((repeat constructor); done)); exact rfl) | (apply EvW.ldSeen; exact rfl; exact ScalC.eq; assumption; (first | exact rfl | assumption)) | (apply EvW.ldFld; exact rfl; exact ScalC.eq; assumption; exact fun _ => rfl; omega; exact rfl; exact inferInstance) | (apply EvW.lenL; exact rfl; exact UndC.eq) | (apply EvW.cmpT; exact rfl; exact rfl; exact rfl; omega) | (apply EvW.cmpF; exact rfl; exact rfl; exact rfl; omega) | (apply EvW.cmp; exact rfl; exact rfl; exact rfl) | (apply EvW.arN; exact rfl; exact rfl; exact rfl; (constructor <;> simp only [IntKind.min, IntKind.max, IntKind.signed, IntKind.bits, ↓reduceIte, Bool.false_eq_true] <;> omega)) | (apply EvW.ar; exact rfl; exact rfl; exact rfl) | (apply EvW.strRow; exact rfl; exact UndC.eq; exact UndC.eq; exact UndC.eq; assumption) | (apply EvW.strOwn; exact rfl; exact UndC.eq; exact UndC.eq; exact UndC.eq; (focus ((repeat constructor); done))) | (apply EvW.ldByt; exact rfl; exact ScalC.eq; assumption; omega) | (apply EvW.ldBytOwn; exact rfl; exact ScalC.eq; (focus ((repeat constructor); done)); omega) | (apply EvW.lenRow; exact rfl; exact UndC.eq; assumption) | (apply EvW.lenOwn; exact rfl; exact UndC.eq; (focus ((repeat constructor); done))) | (apply EvW.idxRow; exact rfl; exact rfl; exact UndC.eq; exact SzC.eq; assumption; omega; omega) | (apply EvW.idxOwn; exact rfl; exact rfl; exact UndC.eq; exact SzC.eq; (focus ((repeat constructor); done)); omega; omega) | (apply EvW.quoP; exact rfl; exact rfl; omega; omega; (first | omega | exact Int.le_trans (by omega) (of_decide_eq_true rfl : (9223372036854775807 : Int) ≤ _) | (simp only [IntKind.max, IntKind.signed, IntKind.bits, ↓reduceIte, Bool.false_eq_true]; omega))) | (apply EvW.quo; exact rfl; exact rfl; omega) | (apply EvW.ldFldOwn; exact rfl; exact ScalC.eq; (focus ((repeat constructor); done)); exact fun _ => rfl; omega; exact rfl; exact inferInstance)))
      | refine WC.seq ?_ | refine WC.region ?_ | refine WL.nil ?_ | refine WE.next ?_ | refine WC.skip ?_ | refine WC.exit ?_ | refine WE.pass ?_ | refine WE.hit ?_ | refine WE.miss rfl ?_ | refine WE.out ?_ | refine WC.condT rfl ?_ | refine WC.condF rfl ?_ | refine WC.ret ?_ | refine WE.passRet ?_ | refine WE.outRet ?_ | refine WL.wanted rfl rfl rfl ?_ | (apply WL.store; exact rfl; exact rfl; (first | assumption | exact rfl); exact SzC.eq; (first | assumption | exact rfl); (focus ((repeat constructor); done)))
    try refine WL.wanted rfl rfl rfl ?_
    (apply WL.bytesOf; exact rfl; exact rfl; exact UndC.eq; exact UndC.eq; exact UndC.eq; intro v)
    repeat first
      | (apply WL.q; exact rfl; exact rfl; exact rfl; (first | (apply EvW.move; exact rfl) | (apply EvW.assign; exact rfl) | (apply EvW.load; exact rfl; exact ScalC.eq; (focus ((repeat constructor); done)); exact rfl) | (apply EvW.ldSeen; exact rfl; exact ScalC.eq; assumption; (first | exact rfl | assumption)) | (apply EvW.ldFld; exact rfl; exact ScalC.eq; assumption; exact fun _ => rfl; omega; exact rfl; exact inferInstance) | (apply EvW.lenL; exact rfl; exact UndC.eq) | (apply EvW.cmpT; exact rfl; exact rfl; exact rfl; omega) | (apply EvW.cmpF; exact rfl; exact rfl; exact rfl; omega) | (apply EvW.cmp; exact rfl; exact rfl; exact rfl) | (apply EvW.arN; exact rfl; exact rfl; exact rfl; (constructor <;> simp only [IntKind.min, IntKind.max, IntKind.signed, IntKind.bits, ↓reduceIte, Bool.false_eq_true] <;> omega)) | (apply EvW.ar; exact rfl; exact rfl; exact rfl) | (apply EvW.strRow; exact rfl; exact UndC.eq; exact UndC.eq; exact UndC.eq; assumption) | (apply EvW.strOwn; exact rfl; exact UndC.eq; exact UndC.eq; exact UndC.eq; (focus ((repeat constructor); done))) | (apply EvW.ldByt; exact rfl; exact ScalC.eq; assumption; omega) | (apply EvW.ldBytOwn; exact rfl; exact ScalC.eq; (focus ((repeat constructor); done)); omega) | (apply EvW.lenRow; exact rfl; exact UndC.eq; assumption) | (apply EvW.lenOwn; exact rfl; exact UndC.eq; (focus ((repeat constructor); done))) | (apply EvW.idxRow; exact rfl; exact rfl; exact UndC.eq; exact SzC.eq; assumption; omega; omega) | (apply EvW.idxOwn; exact rfl; exact rfl; exact UndC.eq; exact SzC.eq; (focus ((repeat constructor); done)); omega; omega) | (apply EvW.quoP; exact rfl; exact rfl; omega; omega; (first | omega | exact Int.le_trans (by omega) (of_decide_eq_true rfl : (9223372036854775807 : Int) ≤ _) | (simp only [IntKind.max, IntKind.signed, IntKind.bits, ↓reduceIte, Bool.false_eq_true]; omega))) | (apply EvW.quo; exact rfl; exact rfl; omega) | (apply EvW.ldFldOwn; exact rfl; exact ScalC.eq; (focus ((repeat constructor); done)); exact fun _ => rfl; omega; exact rfl; exact inferInstance)))
      | refine WC.seq ?_ | refine WC.region ?_ | refine WL.nil ?_ | refine WE.next ?_ | refine WC.skip ?_ | refine WC.exit ?_ | refine WE.pass ?_ | refine WE.hit ?_ | refine WE.miss rfl ?_ | refine WE.out ?_ | refine WC.condT rfl ?_ | refine WC.condF rfl ?_ | refine WC.ret ?_ | refine WE.passRet ?_ | refine WE.outRet ?_ | refine WL.wanted rfl rfl rfl ?_ | (apply WL.store; exact rfl; exact rfl; (first | assumption | exact rfl); exact SzC.eq; (first | assumption | exact rfl); (focus ((repeat constructor); done)))
    refine WE.keep (xs := []) (by repeat constructor) ?_
    refine WE.ret1 rfl rfl ?_
    exact ⟨rfl, rfl⟩
  have hl : 0 < s.length := List.length_pos_iff.2 h0
  repeat first
    | (apply WL.q; exact rfl; exact rfl; exact rfl; (first | (apply EvW.move; exact rfl) | (apply EvW.assign; exact rfl) | (apply EvW.load; exact rfl; exact ScalC.eq; (focus ((repeat constructor); done)); exact rfl) | (apply EvW.ldSeen; exact rfl; exact ScalC.eq; assumption; (first | exact rfl | assumption)) | (apply EvW.ldFld; exact rfl; exact ScalC.eq; assumption; exact fun _ => rfl; omega; exact rfl; exact inferInstance) | (apply EvW.lenL; exact rfl; exact UndC.eq) | (apply EvW.cmpT; exact rfl; exact rfl; exact rfl; omega) | (apply EvW.cmpF; exact rfl; exact rfl; exact rfl; omega) | (apply EvW.cmp; exact rfl; exact rfl; exact rfl) | (apply EvW.arN; exact rfl; exact rfl; exact rfl; (constructor <;> simp only [IntKind.min, IntKind.max, IntKind.signed, IntKind.bits, ↓reduceIte, Bool.false_eq_true] <;> omega)) | (apply EvW.ar; exact rfl; exact rfl; exact rfl) | (apply EvW.strRow; exact rfl; exact UndC.eq; exact UndC.eq; exact UndC.eq; assumption) | (apply EvW.strOwn; exact rfl; exact UndC.eq; exact UndC.eq; exact UndC.eq; (focus ((repeat constructor); done))) | (apply EvW.ldByt; exact rfl; exact ScalC.eq; assumption; omega) | (apply EvW.ldBytOwn; exact rfl; exact ScalC.eq; (focus ((repeat constructor); done)); omega) | (apply EvW.lenRow; exact rfl; exact UndC.eq; assumption) | (apply EvW.lenOwn; exact rfl; exact UndC.eq; (focus ((repeat constructor); done))) | (apply EvW.idxRow; exact rfl; exact rfl; exact UndC.eq; exact SzC.eq; assumption; omega; omega) | (apply EvW.idxOwn; exact rfl; exact rfl; exact UndC.eq; exact SzC.eq; (focus ((repeat constructor); done)); omega; omega) | (apply EvW.quoP; exact rfl; exact rfl; omega; omega; (first | omega | exact Int.le_trans (by omega) (of_decide_eq_true rfl : (9223372036854775807 : Int) ≤ _) | (simp only [IntKind.max, IntKind.signed, IntKind.bits, ↓reduceIte, Bool.false_eq_true]; omega))) | (apply EvW.quo; exact rfl; exact rfl; omega) | (apply EvW.ldFldOwn; exact rfl; exact ScalC.eq; (focus ((repeat constructor); done)); exact fun _ => rfl; omega; exact rfl; exact inferInstance)))
    | refine WC.seq ?_ | refine WC.region ?_ | refine WL.nil ?_ | refine WE.next ?_ | refine WC.skip ?_ | refine WC.exit ?_ | refine WE.pass ?_ | refine WE.hit ?_ | refine WE.miss rfl ?_ | refine WE.out ?_ | refine WC.condT rfl ?_ | refine WC.condF rfl ?_ | refine WC.ret ?_ | refine WE.passRet ?_ | refine WE.outRet ?_ | refine WL.wanted rfl rfl rfl ?_ | (apply WL.store; exact rfl; exact rfl; (first | assumption | exact rfl); exact SzC.eq; (first | assumption | exact rfl); (focus ((repeat constructor); done)))
  try refine WL.wanted rfl rfl rfl ?_
  (apply WL.bytesOf; exact rfl; exact rfl; exact UndC.eq; exact UndC.eq; exact UndC.eq; intro v)
  repeat first
    | (apply WL.q; exact rfl; exact rfl; exact rfl; (first | (apply EvW.move; exact rfl) | (apply EvW.assign; exact rfl) | (apply EvW.load; exact rfl; exact ScalC.eq; (focus ((repeat constructor); done)); exact rfl) | (apply EvW.ldSeen; exact rfl; exact ScalC.eq; assumption; (first | exact rfl | assumption)) | (apply EvW.ldFld; exact rfl; exact ScalC.eq; assumption; exact fun _ => rfl; omega; exact rfl; exact inferInstance) | (apply EvW.lenL; exact rfl; exact UndC.eq) | (apply EvW.cmpT; exact rfl; exact rfl; exact rfl; omega) | (apply EvW.cmpF; exact rfl; exact rfl; exact rfl; omega) | (apply EvW.cmp; exact rfl; exact rfl; exact rfl) | (apply EvW.arN; exact rfl; exact rfl; exact rfl; (constructor <;> simp only [IntKind.min, IntKind.max, IntKind.signed, IntKind.bits, ↓reduceIte, Bool.false_eq_true] <;> omega)) | (apply EvW.ar; exact rfl; exact rfl; exact rfl) | (apply EvW.strRow; exact rfl; exact UndC.eq; exact UndC.eq; exact UndC.eq; assumption) | (apply EvW.strOwn; exact rfl; exact UndC.eq; exact UndC.eq; exact UndC.eq; (focus ((repeat constructor); done))) | (apply EvW.ldByt; exact rfl; exact ScalC.eq; assumption; omega) | (apply EvW.ldBytOwn; exact rfl; exact ScalC.eq; (focus ((repeat constructor); done)); omega) | (apply EvW.lenRow; exact rfl; exact UndC.eq; assumption) | (apply EvW.lenOwn; exact rfl; exact UndC.eq; (focus ((repeat constructor); done))) | (apply EvW.idxRow; exact rfl; exact rfl; exact UndC.eq; exact SzC.eq; assumption; omega; omega) | (apply EvW.idxOwn; exact rfl; exact rfl; exact UndC.eq; exact SzC.eq; (focus ((repeat constructor); done)); omega; omega) | (apply EvW.quoP; exact rfl; exact rfl; omega; omega; (first | omega | exact Int.le_trans (by omega) (of_decide_eq_true rfl : (9223372036854775807 : Int) ≤ _) | (simp only [IntKind.max, IntKind.signed, IntKind.bits, ↓reduceIte, Bool.false_eq_true]; omega))) | (apply EvW.quo; exact rfl; exact rfl; omega) | (apply EvW.ldFldOwn; exact rfl; exact ScalC.eq; (focus ((repeat constructor); done)); exact fun _ => rfl; omega; exact rfl; exact inferInstance)))
    | refine WC.seq ?_ | refine WC.region ?_ | refine WL.nil ?_ | refine WE.next ?_ | refine WC.skip ?_ | refine WC.exit ?_ | refine WE.pass ?_ | refine WE.hit ?_ | refine WE.miss rfl ?_ | refine WE.out ?_ | refine WC.condT rfl ?_ | refine WC.condF rfl ?_ | refine WC.ret ?_ | refine WE.passRet ?_ | refine WE.outRet ?_ | refine WL.wanted rfl rfl rfl ?_ | (apply WL.store; exact rfl; exact rfl; (first | assumption | exact rfl); exact SzC.eq; (first | assumption | exact rfl); (focus ((repeat constructor); done)))
  (apply WL.stOwn; exact rfl; exact rfl; exact rfl; exact SzC.eq; exact rfl; exact rfl; (focus ((repeat constructor); done)))
  · rw [List.length_map, List.length_singleton]; omega
  · rw [over_one (by rw [List.length_map]; omega), show ((s.length : Int) / 2).toNat * 1 + 0 = s.length / 2 by omega, show ((s.length : Int) / 2).toNat = s.length / 2 by omega, show (1 : Int) = ((1 : UInt8).toNat : Int) from rfl, xor8W, show Value.int .u8 ((s.getD (s.length / 2) 0 ^^^ 1).toNat : Int) = byt (s.getD (s.length / 2) 0 ^^^ 1) from rfl, ← List.map_set]; exact .head
  have e : s.set (s.length / 2) (s.getD (s.length / 2) 0 ^^^ 1) = spoilF s := by unfold spoilF; rw [if_neg h0]
  rw [e]
  have hl2 := spoilF_len s
  rw [← hl2]
  repeat first
    | (apply WL.q; exact rfl; exact rfl; exact rfl; (first | (apply EvW.move; exact rfl) | (apply EvW.assign; exact rfl) | (apply EvW.load; exact rfl; exact ScalC.eq; (focus ((repeat constructor); done)); exact rfl) | (apply EvW.ldSeen; exact rfl; exact ScalC.eq; assumption; (first | exact rfl | assumption)) | (apply EvW.ldFld; exact rfl; exact ScalC.eq; assumption; exact fun _ => rfl; omega; exact rfl; exact inferInstance) | (apply EvW.lenL; exact rfl; exact UndC.eq) | (apply EvW.cmpT; exact rfl; exact rfl; exact rfl; omega) | (apply EvW.cmpF; exact rfl; exact rfl; exact rfl; omega) | (apply EvW.cmp; exact rfl; exact rfl; exact rfl) | (apply EvW.arN; exact rfl; exact rfl; exact rfl; (constructor <;> simp only [IntKind.min, IntKind.max, IntKind.signed, IntKind.bits, ↓reduceIte, Bool.false_eq_true] <;> omega)) | (apply EvW.ar; exact rfl; exact rfl; exact rfl) | (apply EvW.strRow; exact rfl; exact UndC.eq; exact UndC.eq; exact UndC.eq; assumption) | (apply EvW.strOwn; exact rfl; exact UndC.eq; exact UndC.eq; exact UndC.eq; (focus ((repeat constructor); done))) | (apply EvW.ldByt; exact rfl; exact ScalC.eq; assumption; omega) | (apply EvW.ldBytOwn; exact rfl; exact ScalC.eq; (focus ((repeat constructor); done)); omega) | (apply EvW.lenRow; exact rfl; exact UndC.eq; assumption) | (apply EvW.lenOwn; exact rfl; exact UndC.eq; (focus ((repeat constructor); done))) | (apply EvW.idxRow; exact rfl; exact rfl; exact UndC.eq; exact SzC.eq; assumption; omega; omega) | (apply EvW.idxOwn; exact rfl; exact rfl; exact UndC.eq; exact SzC.eq; (focus ((repeat constructor); done)); omega; omega) | (apply EvW.quoP; exact rfl; exact rfl; omega; omega; (first | omega | exact Int.le_trans (by omega) (of_decide_eq_true rfl : (9223372036854775807 : Int) ≤ _) | (simp only [IntKind.max, IntKind.signed, IntKind.bits, ↓reduceIte, Bool.false_eq_true]; omega))) | (apply EvW.quo; exact rfl; exact rfl; omega) | (apply EvW.ldFldOwn; exact rfl; exact ScalC.eq; (focus ((repeat constructor); done)); exact fun _ => rfl; omega; exact rfl; exact inferInstance)))
    | refine WC.seq ?_ | refine WC.region ?_ | refine WL.nil ?_ | refine WE.next ?_ | refine WC.skip ?_ | refine WC.exit ?_ | refine WE.pass ?_ | refine WE.hit ?_ | refine WE.miss rfl ?_ | refine WE.out ?_ | refine WC.condT rfl ?_ | refine WC.condF rfl ?_ | refine WC.ret ?_ | refine WE.passRet ?_ | refine WE.outRet ?_ | refine WL.wanted rfl rfl rfl ?_ | (apply WL.store; exact rfl; exact rfl; (first | assumption | exact rfl); exact SzC.eq; (first | assumption | exact rfl); (focus ((repeat constructor); done)))
  refine WE.bare ?_
  refine WE.ret1 rfl rfl ?_
  exact ⟨rfl, rfl⟩
theorem runder20_spec (rb : Nat) (md : Int → Int) (due held : List Tel) (w : World) (S : BSet) (hS : (sepL []).sat S w) (hx : Sees w S (docH rb md due held)) (hn : due.length + held.length ≤ 4294967296) :
    Tri Try.prog 18 #[ptr rb 0] w S fun u A => u = i64 ((due.length : Int) + held.length) ∧ A = [] := by
  refine Tri.enter (l := [ptr rb 0]) Try.func18 rfl Try.ntmps18 rfl [(0, ptr rb 0)] (subA rfl) hS ?_
  obtain ⟨o, m, vd, vh, hm, hb, hi, hd, hh⟩ := Sees.openD hx
  have hd2 := hd.own
  have hh2 := hh.own
  repeat first
    | (apply WL.q; exact rfl; exact rfl; exact rfl; (first | (apply EvW.move; exact rfl) | (apply EvW.assign; exact rfl) | (apply EvW.nilPtr; exact rfl) | (apply EvW.fieldAddr0; exact rfl; exact FldC.eq) | (apply EvW.fieldAddr; exact rfl; exact FldC.eq) | (apply EvW.load; exact rfl; exact ScalC.eq; (focus ((repeat constructor); done)); exact rfl) | (apply EvW.ldSeen; exact rfl; exact ScalC.eq; assumption; (first | exact rfl | assumption)) | (apply EvW.ldFld; exact rfl; exact ScalC.eq; assumption; exact fun _ => rfl; omega; exact rfl; exact inferInstance) | (apply EvW.lenL; exact rfl; exact UndC.eq) | (apply EvW.arN; exact rfl; exact rfl; exact rfl; refine i64_in ?_ ?_ <;> omega) | (apply EvW.ar; exact rfl; exact rfl; exact rfl) | (apply EvW.lenRow; exact rfl; exact UndC.eq; assumption) | (apply EvW.lenOwn; exact rfl; exact UndC.eq; (focus ((repeat constructor); done))) | (apply EvW.fldRow; exact rfl; exact FldC.eq; assumption; omega) | (apply EvW.fldOwn; exact rfl; exact FldC.eq; (focus ((repeat constructor); done)); omega) | (apply EvW.nilElemOwn; exact rfl; (focus ((repeat constructor); done)); omega) | (apply EvW.nilElemRow; exact rfl; assumption; omega) | (apply EvW.ldFldOwn; exact rfl; exact ScalC.eq; (focus ((repeat constructor); done)); exact fun _ => rfl; omega; exact rfl; exact inferInstance)))
    | refine WC.seq ?_ | refine WC.region ?_ | refine WL.nil ?_ | refine WE.next ?_ | refine WC.skip ?_ | refine WC.exit ?_ | refine WE.pass ?_ | refine WE.hit ?_ | refine WE.miss rfl ?_ | refine WE.out ?_ | refine WC.ret ?_ | refine WE.passRet ?_ | refine WE.outRet ?_ | refine WL.wanted rfl rfl rfl ?_
  repeat refine WC.seq ?_
  refine WC.keep (xs := []) (by repeat constructor) ?_
  apply WC.par _ (fun c : Ch => []) [] [] [] Try.mixed
  · (focus ((repeat (first | exact Restr.nil | (apply Restr.keep; exact rfl; exact rfl) | (apply Restr.drop; exact rfl))); done))
  · intro c; exact (by repeat constructor)
  · exact rfl
  · decide +kernel
  · decide +kernel
  · intro c
    (apply Par.quiet _ []; exact rfl; decide +kernel; exact rfl; intro R; refine ⟨_, (by repeat constructor), ?_⟩;
         (first | (apply EvW.move; exact rfl) | (apply EvW.assign; exact rfl) | (apply EvW.nilPtr; exact rfl) | (apply EvW.fieldAddr0; exact rfl; exact FldC.eq) | (apply EvW.fieldAddr; exact rfl; exact FldC.eq) | (apply EvW.load; exact rfl; exact ScalC.eq; (focus ((repeat constructor); done)); exact rfl) | (apply EvW.ldSeen; exact rfl; exact ScalC.eq; assumption; (first | exact rfl | assumption)) | (apply EvW.ldFld; exact rfl; exact ScalC.eq; assumption; exact fun _ => rfl; omega; exact rfl; exact inferInstance) | (apply EvW.lenL; exact rfl; exact UndC.eq) | (apply EvW.arN; exact rfl; exact rfl; exact rfl; refine i64_in ?_ ?_ <;> omega) | (apply EvW.ar; exact rfl; exact rfl; exact rfl) | (apply EvW.lenRow; exact rfl; exact UndC.eq; assumption) | (apply EvW.lenOwn; exact rfl; exact UndC.eq; (focus ((repeat constructor); done))) | (apply EvW.fldRow; exact rfl; exact FldC.eq; assumption; omega) | (apply EvW.fldOwn; exact rfl; exact FldC.eq; (focus ((repeat constructor); done)); omega) | (apply EvW.nilElemOwn; exact rfl; (focus ((repeat constructor); done)); omega) | (apply EvW.nilElemRow; exact rfl; assumption; omega) | (apply EvW.ldFldOwn; exact rfl; exact ScalC.eq; (focus ((repeat constructor); done)); exact fun _ => rfl; omega; exact rfl; exact inferInstance)))
    (apply Par.quiet _ []; exact rfl; decide +kernel; exact rfl; intro R; refine ⟨_, (by repeat constructor), ?_⟩;
         (first | (apply EvW.move; exact rfl) | (apply EvW.assign; exact rfl) | (apply EvW.nilPtr; exact rfl) | (apply EvW.fieldAddr0; exact rfl; exact FldC.eq) | (apply EvW.fieldAddr; exact rfl; exact FldC.eq) | (apply EvW.load; exact rfl; exact ScalC.eq; (focus ((repeat constructor); done)); exact rfl) | (apply EvW.ldSeen; exact rfl; exact ScalC.eq; assumption; (first | exact rfl | assumption)) | (apply EvW.ldFld; exact rfl; exact ScalC.eq; assumption; exact fun _ => rfl; omega; exact rfl; exact inferInstance) | (apply EvW.lenL; exact rfl; exact UndC.eq) | (apply EvW.arN; exact rfl; exact rfl; exact rfl; refine i64_in ?_ ?_ <;> omega) | (apply EvW.ar; exact rfl; exact rfl; exact rfl) | (apply EvW.lenRow; exact rfl; exact UndC.eq; assumption) | (apply EvW.lenOwn; exact rfl; exact UndC.eq; (focus ((repeat constructor); done))) | (apply EvW.fldRow; exact rfl; exact FldC.eq; assumption; omega) | (apply EvW.fldOwn; exact rfl; exact FldC.eq; (focus ((repeat constructor); done)); omega) | (apply EvW.nilElemOwn; exact rfl; (focus ((repeat constructor); done)); omega) | (apply EvW.nilElemRow; exact rfl; assumption; omega) | (apply EvW.ldFldOwn; exact rfl; exact ScalC.eq; (focus ((repeat constructor); done)); exact fun _ => rfl; omega; exact rfl; exact inferInstance)))
    (apply Par.quiet _ []; exact rfl; decide +kernel; exact rfl; intro R; refine ⟨_, (by repeat constructor), ?_⟩;
         (first | (apply EvW.move; exact rfl) | (apply EvW.assign; exact rfl) | (apply EvW.nilPtr; exact rfl) | (apply EvW.fieldAddr0; exact rfl; exact FldC.eq) | (apply EvW.fieldAddr; exact rfl; exact FldC.eq) | (apply EvW.load; exact rfl; exact ScalC.eq; (focus ((repeat constructor); done)); exact rfl) | (apply EvW.ldSeen; exact rfl; exact ScalC.eq; assumption; (first | exact rfl | assumption)) | (apply EvW.ldFld; exact rfl; exact ScalC.eq; assumption; exact fun _ => rfl; omega; exact rfl; exact inferInstance) | (apply EvW.lenL; exact rfl; exact UndC.eq) | (apply EvW.arN; exact rfl; exact rfl; exact rfl; refine i64_in ?_ ?_ <;> omega) | (apply EvW.ar; exact rfl; exact rfl; exact rfl) | (apply EvW.lenRow; exact rfl; exact UndC.eq; assumption) | (apply EvW.lenOwn; exact rfl; exact UndC.eq; (focus ((repeat constructor); done))) | (apply EvW.fldRow; exact rfl; exact FldC.eq; assumption; omega) | (apply EvW.fldOwn; exact rfl; exact FldC.eq; (focus ((repeat constructor); done)); omega) | (apply EvW.nilElemOwn; exact rfl; (focus ((repeat constructor); done)); omega) | (apply EvW.nilElemRow; exact rfl; assumption; omega) | (apply EvW.ldFldOwn; exact rfl; exact ScalC.eq; (focus ((repeat constructor); done)); exact fun _ => rfl; omega; exact rfl; exact inferInstance)))
    (apply Par.quiet _ []; exact rfl; decide +kernel; exact rfl; intro R; refine ⟨_, (by repeat constructor), ?_⟩;
         (first | (apply EvW.move; exact rfl) | (apply EvW.assign; exact rfl) | (apply EvW.nilPtr; exact rfl) | (apply EvW.fieldAddr0; exact rfl; exact FldC.eq) | (apply EvW.fieldAddr; exact rfl; exact FldC.eq) | (apply EvW.load; exact rfl; exact ScalC.eq; (focus ((repeat constructor); done)); exact rfl) | (apply EvW.ldSeen; exact rfl; exact ScalC.eq; assumption; (first | exact rfl | assumption)) | (apply EvW.ldFld; exact rfl; exact ScalC.eq; assumption; exact fun _ => rfl; omega; exact rfl; exact inferInstance) | (apply EvW.lenL; exact rfl; exact UndC.eq) | (apply EvW.arN; exact rfl; exact rfl; exact rfl; refine i64_in ?_ ?_ <;> omega) | (apply EvW.ar; exact rfl; exact rfl; exact rfl) | (apply EvW.lenRow; exact rfl; exact UndC.eq; assumption) | (apply EvW.lenOwn; exact rfl; exact UndC.eq; (focus ((repeat constructor); done))) | (apply EvW.fldRow; exact rfl; exact FldC.eq; assumption; omega) | (apply EvW.fldOwn; exact rfl; exact FldC.eq; (focus ((repeat constructor); done)); omega) | (apply EvW.nilElemOwn; exact rfl; (focus ((repeat constructor); done)); omega) | (apply EvW.nilElemRow; exact rfl; assumption; omega) | (apply EvW.ldFldOwn; exact rfl; exact ScalC.eq; (focus ((repeat constructor); done)); exact fun _ => rfl; omega; exact rfl; exact inferInstance)))
    (apply Par.quiet _ []; exact rfl; decide +kernel; exact rfl; intro R; refine ⟨_, (by repeat constructor), ?_⟩;
         (first | (apply EvW.move; exact rfl) | (apply EvW.assign; exact rfl) | (apply EvW.nilPtr; exact rfl) | (apply EvW.fieldAddr0; exact rfl; exact FldC.eq) | (apply EvW.fieldAddr; exact rfl; exact FldC.eq) | (apply EvW.load; exact rfl; exact ScalC.eq; (focus ((repeat constructor); done)); exact rfl) | (apply EvW.ldSeen; exact rfl; exact ScalC.eq; assumption; (first | exact rfl | assumption)) | (apply EvW.ldFld; exact rfl; exact ScalC.eq; assumption; exact fun _ => rfl; omega; exact rfl; exact inferInstance) | (apply EvW.lenL; exact rfl; exact UndC.eq) | (apply EvW.arN; exact rfl; exact rfl; exact rfl; refine i64_in ?_ ?_ <;> omega) | (apply EvW.ar; exact rfl; exact rfl; exact rfl) | (apply EvW.lenRow; exact rfl; exact UndC.eq; assumption) | (apply EvW.lenOwn; exact rfl; exact UndC.eq; (focus ((repeat constructor); done))) | (apply EvW.fldRow; exact rfl; exact FldC.eq; assumption; omega) | (apply EvW.fldOwn; exact rfl; exact FldC.eq; (focus ((repeat constructor); done)); omega) | (apply EvW.nilElemOwn; exact rfl; (focus ((repeat constructor); done)); omega) | (apply EvW.nilElemRow; exact rfl; assumption; omega) | (apply EvW.ldFldOwn; exact rfl; exact ScalC.eq; (focus ((repeat constructor); done)); exact fun _ => rfl; omega; exact rfl; exact inferInstance)))
    (apply Par.quiet _ []; exact rfl; decide +kernel; exact rfl; intro R; refine ⟨_, (by repeat constructor), ?_⟩;
         (first | (apply EvW.move; exact rfl) | (apply EvW.assign; exact rfl) | (apply EvW.nilPtr; exact rfl) | (apply EvW.fieldAddr0; exact rfl; exact FldC.eq) | (apply EvW.fieldAddr; exact rfl; exact FldC.eq) | (apply EvW.load; exact rfl; exact ScalC.eq; (focus ((repeat constructor); done)); exact rfl) | (apply EvW.ldSeen; exact rfl; exact ScalC.eq; assumption; (first | exact rfl | assumption)) | (apply EvW.ldFld; exact rfl; exact ScalC.eq; assumption; exact fun _ => rfl; omega; exact rfl; exact inferInstance) | (apply EvW.lenL; exact rfl; exact UndC.eq) | (apply EvW.arN; exact rfl; exact rfl; exact rfl; refine i64_in ?_ ?_ <;> omega) | (apply EvW.ar; exact rfl; exact rfl; exact rfl) | (apply EvW.lenRow; exact rfl; exact UndC.eq; assumption) | (apply EvW.lenOwn; exact rfl; exact UndC.eq; (focus ((repeat constructor); done))) | (apply EvW.fldRow; exact rfl; exact FldC.eq; assumption; omega) | (apply EvW.fldOwn; exact rfl; exact FldC.eq; (focus ((repeat constructor); done)); omega) | (apply EvW.nilElemOwn; exact rfl; (focus ((repeat constructor); done)); omega) | (apply EvW.nilElemRow; exact rfl; assumption; omega) | (apply EvW.ldFldOwn; exact rfl; exact ScalC.eq; (focus ((repeat constructor); done)); exact fun _ => rfl; omega; exact rfl; exact inferInstance)))
    (apply Par.quiet _ []; exact rfl; decide +kernel; exact rfl; intro R; refine ⟨_, (by repeat constructor), ?_⟩;
         (first | (apply EvW.move; exact rfl) | (apply EvW.assign; exact rfl) | (apply EvW.nilPtr; exact rfl) | (apply EvW.fieldAddr0; exact rfl; exact FldC.eq) | (apply EvW.fieldAddr; exact rfl; exact FldC.eq) | (apply EvW.load; exact rfl; exact ScalC.eq; (focus ((repeat constructor); done)); exact rfl) | (apply EvW.ldSeen; exact rfl; exact ScalC.eq; assumption; (first | exact rfl | assumption)) | (apply EvW.ldFld; exact rfl; exact ScalC.eq; assumption; exact fun _ => rfl; omega; exact rfl; exact inferInstance) | (apply EvW.lenL; exact rfl; exact UndC.eq) | (apply EvW.arN; exact rfl; exact rfl; exact rfl; refine i64_in ?_ ?_ <;> omega) | (apply EvW.ar; exact rfl; exact rfl; exact rfl) | (apply EvW.lenRow; exact rfl; exact UndC.eq; assumption) | (apply EvW.lenOwn; exact rfl; exact UndC.eq; (focus ((repeat constructor); done))) | (apply EvW.fldRow; exact rfl; exact FldC.eq; assumption; omega) | (apply EvW.fldOwn; exact rfl; exact FldC.eq; (focus ((repeat constructor); done)); omega) | (apply EvW.nilElemOwn; exact rfl; (focus ((repeat constructor); done)); omega) | (apply EvW.nilElemRow; exact rfl; assumption; omega) | (apply EvW.ldFldOwn; exact rfl; exact ScalC.eq; (focus ((repeat constructor); done)); exact fun _ => rfl; omega; exact rfl; exact inferInstance)))
    (apply Par.quiet _ []; exact rfl; decide +kernel; exact rfl; intro R; refine ⟨_, (by repeat constructor), ?_⟩;
         (first | (apply EvW.move; exact rfl) | (apply EvW.assign; exact rfl) | (apply EvW.nilPtr; exact rfl) | (apply EvW.fieldAddr0; exact rfl; exact FldC.eq) | (apply EvW.fieldAddr; exact rfl; exact FldC.eq) | (apply EvW.load; exact rfl; exact ScalC.eq; (focus ((repeat constructor); done)); exact rfl) | (apply EvW.ldSeen; exact rfl; exact ScalC.eq; assumption; (first | exact rfl | assumption)) | (apply EvW.ldFld; exact rfl; exact ScalC.eq; assumption; exact fun _ => rfl; omega; exact rfl; exact inferInstance) | (apply EvW.lenL; exact rfl; exact UndC.eq) | (apply EvW.arN; exact rfl; exact rfl; exact rfl; refine i64_in ?_ ?_ <;> omega) | (apply EvW.ar; exact rfl; exact rfl; exact rfl) | (apply EvW.lenRow; exact rfl; exact UndC.eq; assumption) | (apply EvW.lenOwn; exact rfl; exact UndC.eq; (focus ((repeat constructor); done))) | (apply EvW.fldRow; exact rfl; exact FldC.eq; assumption; omega) | (apply EvW.fldOwn; exact rfl; exact FldC.eq; (focus ((repeat constructor); done)); omega) | (apply EvW.nilElemOwn; exact rfl; (focus ((repeat constructor); done)); omega) | (apply EvW.nilElemRow; exact rfl; assumption; omega) | (apply EvW.ldFldOwn; exact rfl; exact ScalC.eq; (focus ((repeat constructor); done)); exact fun _ => rfl; omega; exact rfl; exact inferInstance)))
    (apply Par.quiet _ []; exact rfl; decide +kernel; exact rfl; intro R; refine ⟨_, (by repeat constructor), ?_⟩;
         (first | (apply EvW.move; exact rfl) | (apply EvW.assign; exact rfl) | (apply EvW.nilPtr; exact rfl) | (apply EvW.fieldAddr0; exact rfl; exact FldC.eq) | (apply EvW.fieldAddr; exact rfl; exact FldC.eq) | (apply EvW.load; exact rfl; exact ScalC.eq; (focus ((repeat constructor); done)); exact rfl) | (apply EvW.ldSeen; exact rfl; exact ScalC.eq; assumption; (first | exact rfl | assumption)) | (apply EvW.ldFld; exact rfl; exact ScalC.eq; assumption; exact fun _ => rfl; omega; exact rfl; exact inferInstance) | (apply EvW.lenL; exact rfl; exact UndC.eq) | (apply EvW.arN; exact rfl; exact rfl; exact rfl; refine i64_in ?_ ?_ <;> omega) | (apply EvW.ar; exact rfl; exact rfl; exact rfl) | (apply EvW.lenRow; exact rfl; exact UndC.eq; assumption) | (apply EvW.lenOwn; exact rfl; exact UndC.eq; (focus ((repeat constructor); done))) | (apply EvW.fldRow; exact rfl; exact FldC.eq; assumption; omega) | (apply EvW.fldOwn; exact rfl; exact FldC.eq; (focus ((repeat constructor); done)); omega) | (apply EvW.nilElemOwn; exact rfl; (focus ((repeat constructor); done)); omega) | (apply EvW.nilElemRow; exact rfl; assumption; omega) | (apply EvW.ldFldOwn; exact rfl; exact ScalC.eq; (focus ((repeat constructor); done)); exact fun _ => rfl; omega; exact rfl; exact inferInstance)))
    (apply Par.quiet _ []; exact rfl; decide +kernel; exact rfl; intro R; refine ⟨_, (by repeat constructor), ?_⟩;
         (first | (apply EvW.move; exact rfl) | (apply EvW.assign; exact rfl) | (apply EvW.nilPtr; exact rfl) | (apply EvW.fieldAddr0; exact rfl; exact FldC.eq) | (apply EvW.fieldAddr; exact rfl; exact FldC.eq) | (apply EvW.load; exact rfl; exact ScalC.eq; (focus ((repeat constructor); done)); exact rfl) | (apply EvW.ldSeen; exact rfl; exact ScalC.eq; assumption; (first | exact rfl | assumption)) | (apply EvW.ldFld; exact rfl; exact ScalC.eq; assumption; exact fun _ => rfl; omega; exact rfl; exact inferInstance) | (apply EvW.lenL; exact rfl; exact UndC.eq) | (apply EvW.arN; exact rfl; exact rfl; exact rfl; refine i64_in ?_ ?_ <;> omega) | (apply EvW.ar; exact rfl; exact rfl; exact rfl) | (apply EvW.lenRow; exact rfl; exact UndC.eq; assumption) | (apply EvW.lenOwn; exact rfl; exact UndC.eq; (focus ((repeat constructor); done))) | (apply EvW.fldRow; exact rfl; exact FldC.eq; assumption; omega) | (apply EvW.fldOwn; exact rfl; exact FldC.eq; (focus ((repeat constructor); done)); omega) | (apply EvW.nilElemOwn; exact rfl; (focus ((repeat constructor); done)); omega) | (apply EvW.nilElemRow; exact rfl; assumption; omega) | (apply EvW.ldFldOwn; exact rfl; exact ScalC.eq; (focus ((repeat constructor); done)); exact fun _ => rfl; omega; exact rfl; exact inferInstance)))
    (apply Par.quiet _ []; exact rfl; decide +kernel; exact rfl; intro R; refine ⟨_, (by repeat constructor), ?_⟩;
         (first | (apply EvW.move; exact rfl) | (apply EvW.assign; exact rfl) | (apply EvW.nilPtr; exact rfl) | (apply EvW.fieldAddr0; exact rfl; exact FldC.eq) | (apply EvW.fieldAddr; exact rfl; exact FldC.eq) | (apply EvW.load; exact rfl; exact ScalC.eq; (focus ((repeat constructor); done)); exact rfl) | (apply EvW.ldSeen; exact rfl; exact ScalC.eq; assumption; (first | exact rfl | assumption)) | (apply EvW.ldFld; exact rfl; exact ScalC.eq; assumption; exact fun _ => rfl; omega; exact rfl; exact inferInstance) | (apply EvW.lenL; exact rfl; exact UndC.eq) | (apply EvW.arN; exact rfl; exact rfl; exact rfl; refine i64_in ?_ ?_ <;> omega) | (apply EvW.ar; exact rfl; exact rfl; exact rfl) | (apply EvW.lenRow; exact rfl; exact UndC.eq; assumption) | (apply EvW.lenOwn; exact rfl; exact UndC.eq; (focus ((repeat constructor); done))) | (apply EvW.fldRow; exact rfl; exact FldC.eq; assumption; omega) | (apply EvW.fldOwn; exact rfl; exact FldC.eq; (focus ((repeat constructor); done)); omega) | (apply EvW.nilElemOwn; exact rfl; (focus ((repeat constructor); done)); omega) | (apply EvW.nilElemRow; exact rfl; assumption; omega) | (apply EvW.ldFldOwn; exact rfl; exact ScalC.eq; (focus ((repeat constructor); done)); exact fun _ => rfl; omega; exact rfl; exact inferInstance)))
    (apply Par.quiet _ []; exact rfl; decide +kernel; exact rfl; intro R; refine ⟨_, (by repeat constructor), ?_⟩;
         (first | (apply EvW.move; exact rfl) | (apply EvW.assign; exact rfl) | (apply EvW.nilPtr; exact rfl) | (apply EvW.fieldAddr0; exact rfl; exact FldC.eq) | (apply EvW.fieldAddr; exact rfl; exact FldC.eq) | (apply EvW.load; exact rfl; exact ScalC.eq; (focus ((repeat constructor); done)); exact rfl) | (apply EvW.ldSeen; exact rfl; exact ScalC.eq; assumption; (first | exact rfl | assumption)) | (apply EvW.ldFld; exact rfl; exact ScalC.eq; assumption; exact fun _ => rfl; omega; exact rfl; exact inferInstance) | (apply EvW.lenL; exact rfl; exact UndC.eq) | (apply EvW.arN; exact rfl; exact rfl; exact rfl; refine i64_in ?_ ?_ <;> omega) | (apply EvW.ar; exact rfl; exact rfl; exact rfl) | (apply EvW.lenRow; exact rfl; exact UndC.eq; assumption) | (apply EvW.lenOwn; exact rfl; exact UndC.eq; (focus ((repeat constructor); done))) | (apply EvW.fldRow; exact rfl; exact FldC.eq; assumption; omega) | (apply EvW.fldOwn; exact rfl; exact FldC.eq; (focus ((repeat constructor); done)); omega) | (apply EvW.nilElemOwn; exact rfl; (focus ((repeat constructor); done)); omega) | (apply EvW.nilElemRow; exact rfl; assumption; omega) | (apply EvW.ldFldOwn; exact rfl; exact ScalC.eq; (focus ((repeat constructor); done)); exact fun _ => rfl; omega; exact rfl; exact inferInstance)))
    exact Par.nil
  · repeat (first | exact AllN.nil | (apply AllN.cons; (intro c x; (repeat (first | exact IndA.nil | (apply IndA.skip; decide +kernel) | apply IndA.same))))) 
  · repeat (first | exact AllN.nil | (apply AllN.cons; (intro c x; (repeat (first | exact IndT.nil | (apply IndT.skip; decide +kernel) | apply IndT.same))))) 
  · exact fun _ => rfl
  intro c
  refine ⟨_, (by repeat constructor), ?_⟩
  apply WE.writ
  · (focus ((repeat (first | exact Writ.nil | apply Writ.some | apply Writ.none)); done))
  repeat first
    | (apply WL.q; exact rfl; exact rfl; exact rfl; (first | (apply EvW.move; exact rfl) | (apply EvW.assign; exact rfl) | (apply EvW.nilPtr; exact rfl) | (apply EvW.fieldAddr0; exact rfl; exact FldC.eq) | (apply EvW.fieldAddr; exact rfl; exact FldC.eq) | (apply EvW.load; exact rfl; exact ScalC.eq; (focus ((repeat constructor); done)); exact rfl) | (apply EvW.ldSeen; exact rfl; exact ScalC.eq; assumption; (first | exact rfl | assumption)) | (apply EvW.ldFld; exact rfl; exact ScalC.eq; assumption; exact fun _ => rfl; omega; exact rfl; exact inferInstance) | (apply EvW.lenL; exact rfl; exact UndC.eq) | (apply EvW.arN; exact rfl; exact rfl; exact rfl; refine i64_in ?_ ?_ <;> omega) | (apply EvW.ar; exact rfl; exact rfl; exact rfl) | (apply EvW.lenRow; exact rfl; exact UndC.eq; assumption) | (apply EvW.lenOwn; exact rfl; exact UndC.eq; (focus ((repeat constructor); done))) | (apply EvW.fldRow; exact rfl; exact FldC.eq; assumption; omega) | (apply EvW.fldOwn; exact rfl; exact FldC.eq; (focus ((repeat constructor); done)); omega) | (apply EvW.nilElemOwn; exact rfl; (focus ((repeat constructor); done)); omega) | (apply EvW.nilElemRow; exact rfl; assumption; omega) | (apply EvW.ldFldOwn; exact rfl; exact ScalC.eq; (focus ((repeat constructor); done)); exact fun _ => rfl; omega; exact rfl; exact inferInstance)))
    | refine WC.seq ?_ | refine WC.region ?_ | refine WL.nil ?_ | refine WE.next ?_ | refine WC.skip ?_ | refine WC.exit ?_ | refine WE.pass ?_ | refine WE.hit ?_ | refine WE.miss rfl ?_ | refine WE.out ?_ | refine WC.ret ?_ | refine WE.passRet ?_ | refine WE.outRet ?_ | refine WL.wanted rfl rfl rfl ?_
  refine WE.bare ?_
  refine WE.ret1 rfl rfl ?_
  exact ⟨rfl, rfl⟩
/-- The least peer above one. -/
def leastS (above : Int) (first : Bool) (b : Int × Bool) (t : Tel) : Int × Bool := if (first = true ∨ above < t.1) ∧ (b.2 = false ∨ t.1 < b.1) then (t.1, true) else b
def leastF (l : List Tel) (above : Int) (first : Bool) : Int × Bool := l.foldl (leastS above first) (0, false)
theorem least_take (l : List Tel) (above : Int) (first : Bool) (i : Nat) (h : i < l.length) : leastF (l.take (i + 1)) above first = leastS above first (leastF (l.take i) above first) (l.getD i default) := by
  have e : l.take (i + 1) = l.take i ++ [l.getD i default] := by
    rw [List.take_add_one, List.getD_eq_getElem?_getD, List.getElem?_eq_getElem h]; rfl
  rw [e]
  unfold leastF
  rw [List.foldl_append]; rfl
theorem rleast_spec (v : Value) (l : List Tel) (above : Int) (first : Bool) (w : World) (S : BSet) (hS : (sepL []).sat S w) (hv : Sees w S (.row 2 v l.length (l.flatMap telC))) (hn : l.length ≤ 4294967296) :
    Tri Try.prog 25 #[v, i64 above, .bool first] w S fun u A => u = .tuple #[i64 (leastF l above first).1, .bool (leastF l above first).2] ∧ A = [] := by
  refine Tri.enter (l := [v, i64 above, .bool first]) Try.func25 rfl Try.ntmps25 rfl [(0, v), (1, i64 above), (2, .bool first)] (subA rfl) hS ?_
  repeat first
    | (apply WL.q; exact rfl; exact rfl; exact rfl; (first | (apply EvW.move; exact rfl) | (apply EvW.assign; exact rfl) | (apply EvW.fieldAddr0; exact rfl; exact FldC.eq) | (apply EvW.fieldAddr; exact rfl; exact FldC.eq) | (apply EvW.load; exact rfl; exact ScalC.eq; (focus ((repeat constructor); done)); exact rfl) | (apply EvW.ldSeen; exact rfl; exact ScalC.eq; assumption; (first | exact rfl | assumption)) | (apply EvW.ldFld; exact rfl; exact ScalC.eq; assumption; exact fun _ => rfl; omega; exact rfl; exact inferInstance) | (apply EvW.lenL; exact rfl; exact UndC.eq) | (apply EvW.cmpT; exact rfl; exact rfl; exact rfl; omega) | (apply EvW.cmpF; exact rfl; exact rfl; exact rfl; omega) | (apply EvW.cmp; exact rfl; exact rfl; exact rfl) | (apply EvW.arN; exact rfl; exact rfl; exact rfl; refine i64_in ?_ ?_ <;> omega) | (apply EvW.ar; exact rfl; exact rfl; exact rfl) | (apply EvW.pickT; exact rfl; exact rfl) | (apply EvW.pickF; exact rfl; exact rfl) | (apply EvW.notT; exact rfl) | (apply EvW.notF; exact rfl) | (apply EvW.notP; exact rfl) | (apply EvW.loadAgg; exact rfl; exact AggC.eq; exact SzC.eq; (focus ((repeat constructor); done)); (focus ((repeat (first | exact SubL.nil | apply SubL.cons | apply SubL.succ)); done))) | (apply EvW.lenRow; exact rfl; exact UndC.eq; assumption) | (apply EvW.lenOwn; exact rfl; exact UndC.eq; (focus ((repeat constructor); done))) | (apply EvW.idxRow; exact rfl; exact rfl; exact UndC.eq; exact SzC.eq; assumption; omega; omega) | (apply EvW.idxOwn; exact rfl; exact rfl; exact UndC.eq; exact SzC.eq; (focus ((repeat constructor); done)); omega; omega) | (apply EvW.ldInt; exact rfl; exact ScalC.eq; assumption; omega) | (apply EvW.ldIntOwn; exact rfl; exact ScalC.eq; (focus ((repeat constructor); done)); omega) | (apply EvW.fldRow; exact rfl; exact FldC.eq; assumption; omega) | (apply EvW.fldOwn; exact rfl; exact FldC.eq; (focus ((repeat constructor); done)); omega) | (apply EvW.ldFldOwn; exact rfl; exact ScalC.eq; (focus ((repeat constructor); done)); exact fun _ => rfl; omega; exact rfl; exact inferInstance)))
    | refine WC.seq ?_ | refine WC.region ?_ | refine WL.nil ?_ | refine WE.next ?_ | refine WC.block ?_ | refine WC.skip ?_ | refine WC.exit ?_ | refine WE.pass ?_ | refine WE.hit ?_ | refine WE.miss rfl ?_ | refine WE.out ?_ | refine WC.condT rfl ?_ | refine WC.condF rfl ?_ | refine WC.ret ?_ | refine WE.passRet ?_ | refine WE.outRet ?_ | refine WL.wanted rfl rfl rfl ?_ | refine WL.unwanted rfl rfl rfl rfl ?_ | refine WL.unwantedU rfl rfl rfl rfl ?_ | refine WL.unwanted0 rfl rfl rfl ?_ | (apply WL.store; exact rfl; exact rfl; (first | assumption | exact rfl); exact SzC.eq; (first | assumption | exact rfl); (focus ((repeat constructor); done)))
  refine WC.loopK (σ := Nat × Int × Bool) [1, 2, 12, 13] (fun s => [(8, i64 s.2.1), (9, .bool s.2.2), (14, i64 s.1)]) (fun s => []) (fun s => s.1 ≤ l.length ∧ leastF (l.take s.1) above first = (s.2.1, s.2.2)) (fun s => l.length - s.1) (0, 0, false) (by (focus ((repeat (first | exact Pick.nil | (apply Pick.cons; exact rfl))); done))) (by (focus ((repeat (first | exact trivial | (refine ⟨rfl, ?_⟩))); done))) (fun _ h => h.keep (by repeat constructor)) ⟨Nat.zero_le _, rfl⟩ (fun s hs => ?_)
  obtain ⟨i, b, f⟩ := s
  simp only [List.cons_append, List.nil_append] at hs ⊢
  obtain ⟨hi0, hb⟩ := hs
  by_cases hlt : (i : Int) < l.length
  · have hi : i < l.length := by omega
    have hst := least_take l above first i hi
    rw [hb] at hst
    repeat first
      | (apply WL.q; exact rfl; exact rfl; exact rfl; (first | (apply EvW.move; exact rfl) | (apply EvW.assign; exact rfl) | (apply EvW.fieldAddr0; exact rfl; exact FldC.eq) | (apply EvW.fieldAddr; exact rfl; exact FldC.eq) | (apply EvW.load; exact rfl; exact ScalC.eq; (focus ((repeat constructor); done)); exact rfl) | (apply EvW.ldSeen; exact rfl; exact ScalC.eq; assumption; (first | exact rfl | assumption)) | (apply EvW.ldFld; exact rfl; exact ScalC.eq; assumption; exact fun _ => rfl; omega; exact rfl; exact inferInstance) | (apply EvW.lenL; exact rfl; exact UndC.eq) | (apply EvW.cmpT; exact rfl; exact rfl; exact rfl; omega) | (apply EvW.cmpF; exact rfl; exact rfl; exact rfl; omega) | (apply EvW.cmp; exact rfl; exact rfl; exact rfl) | (apply EvW.arN; exact rfl; exact rfl; exact rfl; refine i64_in ?_ ?_ <;> omega) | (apply EvW.ar; exact rfl; exact rfl; exact rfl) | (apply EvW.pickT; exact rfl; exact rfl) | (apply EvW.pickF; exact rfl; exact rfl) | (apply EvW.notT; exact rfl) | (apply EvW.notF; exact rfl) | (apply EvW.notP; exact rfl) | (apply EvW.loadAgg; exact rfl; exact AggC.eq; exact SzC.eq; (focus ((repeat constructor); done)); (focus ((repeat (first | exact SubL.nil | apply SubL.cons | apply SubL.succ)); done))) | (apply EvW.lenRow; exact rfl; exact UndC.eq; assumption) | (apply EvW.lenOwn; exact rfl; exact UndC.eq; (focus ((repeat constructor); done))) | (apply EvW.idxRow; exact rfl; exact rfl; exact UndC.eq; exact SzC.eq; assumption; omega; omega) | (apply EvW.idxOwn; exact rfl; exact rfl; exact UndC.eq; exact SzC.eq; (focus ((repeat constructor); done)); omega; omega) | (apply EvW.ldInt; exact rfl; exact ScalC.eq; assumption; omega) | (apply EvW.ldIntOwn; exact rfl; exact ScalC.eq; (focus ((repeat constructor); done)); omega) | (apply EvW.fldRow; exact rfl; exact FldC.eq; assumption; omega) | (apply EvW.fldOwn; exact rfl; exact FldC.eq; (focus ((repeat constructor); done)); omega) | (apply EvW.ldFldOwn; exact rfl; exact ScalC.eq; (focus ((repeat constructor); done)); exact fun _ => rfl; omega; exact rfl; exact inferInstance)))
      | refine WC.seq ?_ | refine WC.region ?_ | refine WL.nil ?_ | refine WE.next ?_ | refine WC.block ?_ | refine WC.skip ?_ | refine WC.exit ?_ | refine WE.pass ?_ | refine WE.hit ?_ | refine WE.miss rfl ?_ | refine WE.out ?_ | refine WC.condT rfl ?_ | refine WC.condF rfl ?_ | refine WC.ret ?_ | refine WE.passRet ?_ | refine WE.outRet ?_ | refine WL.wanted rfl rfl rfl ?_ | refine WL.unwanted rfl rfl rfl rfl ?_ | refine WL.unwantedU rfl rfl rfl rfl ?_ | refine WL.unwanted0 rfl rfl rfl ?_ | (apply WL.store; exact rfl; exact rfl; (first | assumption | exact rfl); exact SzC.eq; (first | assumption | exact rfl); (focus ((repeat constructor); done)))
    (apply WL.q; exact rfl; exact rfl; exact rfl; (apply EvW.ldElem (xs := l) (z := (default : Tel)) (f := telC); exact rfl; exact AggC.eq; exact SzC.eq; exact rfl; exact fun _ => rfl; assumption; omega))
    try refine WL.wanted rfl rfl rfl ?_
    (apply WL.alloc; exact rfl; exact ZvC.eq; exact rfl; intro tb)
    rw [show ((i : Nat) : Int).toNat = i from rfl]
    obtain ⟨t, htt⟩ : ∃ t, l.getD i default = t := ⟨_, rfl⟩
    rw [htt] at hst ⊢
    unfold leastS at hst
    cases first with
    | true =>
      cases f with
      | false =>
        rw [if_pos ⟨.inl rfl, .inl rfl⟩] at hst
        repeat first
          | (apply WL.q; exact rfl; exact rfl; exact rfl; (first | (apply EvW.move; exact rfl) | (apply EvW.assign; exact rfl) | (apply EvW.fieldAddr0; exact rfl; exact FldC.eq) | (apply EvW.fieldAddr; exact rfl; exact FldC.eq) | (apply EvW.load; exact rfl; exact ScalC.eq; (focus ((repeat constructor); done)); exact rfl) | (apply EvW.ldSeen; exact rfl; exact ScalC.eq; assumption; (first | exact rfl | assumption)) | (apply EvW.ldFld; exact rfl; exact ScalC.eq; assumption; exact fun _ => rfl; omega; exact rfl; exact inferInstance) | (apply EvW.lenL; exact rfl; exact UndC.eq) | (apply EvW.cmpT; exact rfl; exact rfl; exact rfl; omega) | (apply EvW.cmpF; exact rfl; exact rfl; exact rfl; omega) | (apply EvW.cmp; exact rfl; exact rfl; exact rfl) | (apply EvW.arN; exact rfl; exact rfl; exact rfl; refine i64_in ?_ ?_ <;> omega) | (apply EvW.ar; exact rfl; exact rfl; exact rfl) | (apply EvW.pickT; exact rfl; exact rfl) | (apply EvW.pickF; exact rfl; exact rfl) | (apply EvW.notT; exact rfl) | (apply EvW.notF; exact rfl) | (apply EvW.notP; exact rfl) | (apply EvW.loadAgg; exact rfl; exact AggC.eq; exact SzC.eq; (focus ((repeat constructor); done)); (focus ((repeat (first | exact SubL.nil | apply SubL.cons | apply SubL.succ)); done))) | (apply EvW.lenRow; exact rfl; exact UndC.eq; assumption) | (apply EvW.lenOwn; exact rfl; exact UndC.eq; (focus ((repeat constructor); done))) | (apply EvW.idxRow; exact rfl; exact rfl; exact UndC.eq; exact SzC.eq; assumption; omega; omega) | (apply EvW.idxOwn; exact rfl; exact rfl; exact UndC.eq; exact SzC.eq; (focus ((repeat constructor); done)); omega; omega) | (apply EvW.ldInt; exact rfl; exact ScalC.eq; assumption; omega) | (apply EvW.ldIntOwn; exact rfl; exact ScalC.eq; (focus ((repeat constructor); done)); omega) | (apply EvW.fldRow; exact rfl; exact FldC.eq; assumption; omega) | (apply EvW.fldOwn; exact rfl; exact FldC.eq; (focus ((repeat constructor); done)); omega) | (apply EvW.ldFldOwn; exact rfl; exact ScalC.eq; (focus ((repeat constructor); done)); exact fun _ => rfl; omega; exact rfl; exact inferInstance)))
          | refine WC.seq ?_ | refine WC.region ?_ | refine WL.nil ?_ | refine WE.next ?_ | refine WC.block ?_ | refine WC.skip ?_ | refine WC.exit ?_ | refine WE.pass ?_ | refine WE.hit ?_ | refine WE.miss rfl ?_ | refine WE.out ?_ | refine WC.condT rfl ?_ | refine WC.condF rfl ?_ | refine WC.ret ?_ | refine WE.passRet ?_ | refine WE.outRet ?_ | refine WL.wanted rfl rfl rfl ?_ | refine WL.unwanted rfl rfl rfl rfl ?_ | refine WL.unwantedU rfl rfl rfl rfl ?_ | refine WL.unwanted0 rfl rfl rfl ?_ | (apply WL.store; exact rfl; exact rfl; (first | assumption | exact rfl); exact SzC.eq; (first | assumption | exact rfl); (focus ((repeat constructor); done)))
        exact WE.again (s := (i, b, false)) ((i + 1, t.1, true)) ⟨by simp only []; omega, hst⟩ (by (focus ((repeat (first | exact trivial | (refine ⟨rfl, ?_⟩))); done))) (fun _ h => (by (try simp only []); exact h.keep (by repeat constructor))) (by (try simp only []); omega)
      | true =>
        by_cases h2 : t.1 < b
        · rw [if_pos ⟨.inl rfl, .inr h2⟩] at hst
          repeat first
            | (apply WL.q; exact rfl; exact rfl; exact rfl; (first | (apply EvW.move; exact rfl) | (apply EvW.assign; exact rfl) | (apply EvW.fieldAddr0; exact rfl; exact FldC.eq) | (apply EvW.fieldAddr; exact rfl; exact FldC.eq) | (apply EvW.load; exact rfl; exact ScalC.eq; (focus ((repeat constructor); done)); exact rfl) | (apply EvW.ldSeen; exact rfl; exact ScalC.eq; assumption; (first | exact rfl | assumption)) | (apply EvW.ldFld; exact rfl; exact ScalC.eq; assumption; exact fun _ => rfl; omega; exact rfl; exact inferInstance) | (apply EvW.lenL; exact rfl; exact UndC.eq) | (apply EvW.cmpT; exact rfl; exact rfl; exact rfl; omega) | (apply EvW.cmpF; exact rfl; exact rfl; exact rfl; omega) | (apply EvW.cmp; exact rfl; exact rfl; exact rfl) | (apply EvW.arN; exact rfl; exact rfl; exact rfl; refine i64_in ?_ ?_ <;> omega) | (apply EvW.ar; exact rfl; exact rfl; exact rfl) | (apply EvW.pickT; exact rfl; exact rfl) | (apply EvW.pickF; exact rfl; exact rfl) | (apply EvW.notT; exact rfl) | (apply EvW.notF; exact rfl) | (apply EvW.notP; exact rfl) | (apply EvW.loadAgg; exact rfl; exact AggC.eq; exact SzC.eq; (focus ((repeat constructor); done)); (focus ((repeat (first | exact SubL.nil | apply SubL.cons | apply SubL.succ)); done))) | (apply EvW.lenRow; exact rfl; exact UndC.eq; assumption) | (apply EvW.lenOwn; exact rfl; exact UndC.eq; (focus ((repeat constructor); done))) | (apply EvW.idxRow; exact rfl; exact rfl; exact UndC.eq; exact SzC.eq; assumption; omega; omega) | (apply EvW.idxOwn; exact rfl; exact rfl; exact UndC.eq; exact SzC.eq; (focus ((repeat constructor); done)); omega; omega) | (apply EvW.ldInt; exact rfl; exact ScalC.eq; assumption; omega) | (apply EvW.ldIntOwn; exact rfl; exact ScalC.eq; (focus ((repeat constructor); done)); omega) | (apply EvW.fldRow; exact rfl; exact FldC.eq; assumption; omega) | (apply EvW.fldOwn; exact rfl; exact FldC.eq; (focus ((repeat constructor); done)); omega) | (apply EvW.ldFldOwn; exact rfl; exact ScalC.eq; (focus ((repeat constructor); done)); exact fun _ => rfl; omega; exact rfl; exact inferInstance)))
            | refine WC.seq ?_ | refine WC.region ?_ | refine WL.nil ?_ | refine WE.next ?_ | refine WC.block ?_ | refine WC.skip ?_ | refine WC.exit ?_ | refine WE.pass ?_ | refine WE.hit ?_ | refine WE.miss rfl ?_ | refine WE.out ?_ | refine WC.condT rfl ?_ | refine WC.condF rfl ?_ | refine WC.ret ?_ | refine WE.passRet ?_ | refine WE.outRet ?_ | refine WL.wanted rfl rfl rfl ?_ | refine WL.unwanted rfl rfl rfl rfl ?_ | refine WL.unwantedU rfl rfl rfl rfl ?_ | refine WL.unwanted0 rfl rfl rfl ?_ | (apply WL.store; exact rfl; exact rfl; (first | assumption | exact rfl); exact SzC.eq; (first | assumption | exact rfl); (focus ((repeat constructor); done)))
          exact WE.again (s := (i, b, true)) ((i + 1, t.1, true)) ⟨by simp only []; omega, hst⟩ (by (focus ((repeat (first | exact trivial | (refine ⟨rfl, ?_⟩))); done))) (fun _ h => (by (try simp only []); exact h.keep (by repeat constructor))) (by (try simp only []); omega)
        · rw [if_neg (fun h => h.2.elim (fun h => by cases h) h2)] at hst
          repeat first
            | (apply WL.q; exact rfl; exact rfl; exact rfl; (first | (apply EvW.move; exact rfl) | (apply EvW.assign; exact rfl) | (apply EvW.fieldAddr0; exact rfl; exact FldC.eq) | (apply EvW.fieldAddr; exact rfl; exact FldC.eq) | (apply EvW.load; exact rfl; exact ScalC.eq; (focus ((repeat constructor); done)); exact rfl) | (apply EvW.ldSeen; exact rfl; exact ScalC.eq; assumption; (first | exact rfl | assumption)) | (apply EvW.ldFld; exact rfl; exact ScalC.eq; assumption; exact fun _ => rfl; omega; exact rfl; exact inferInstance) | (apply EvW.lenL; exact rfl; exact UndC.eq) | (apply EvW.cmpT; exact rfl; exact rfl; exact rfl; omega) | (apply EvW.cmpF; exact rfl; exact rfl; exact rfl; omega) | (apply EvW.cmp; exact rfl; exact rfl; exact rfl) | (apply EvW.arN; exact rfl; exact rfl; exact rfl; refine i64_in ?_ ?_ <;> omega) | (apply EvW.ar; exact rfl; exact rfl; exact rfl) | (apply EvW.pickT; exact rfl; exact rfl) | (apply EvW.pickF; exact rfl; exact rfl) | (apply EvW.notT; exact rfl) | (apply EvW.notF; exact rfl) | (apply EvW.notP; exact rfl) | (apply EvW.loadAgg; exact rfl; exact AggC.eq; exact SzC.eq; (focus ((repeat constructor); done)); (focus ((repeat (first | exact SubL.nil | apply SubL.cons | apply SubL.succ)); done))) | (apply EvW.lenRow; exact rfl; exact UndC.eq; assumption) | (apply EvW.lenOwn; exact rfl; exact UndC.eq; (focus ((repeat constructor); done))) | (apply EvW.idxRow; exact rfl; exact rfl; exact UndC.eq; exact SzC.eq; assumption; omega; omega) | (apply EvW.idxOwn; exact rfl; exact rfl; exact UndC.eq; exact SzC.eq; (focus ((repeat constructor); done)); omega; omega) | (apply EvW.ldInt; exact rfl; exact ScalC.eq; assumption; omega) | (apply EvW.ldIntOwn; exact rfl; exact ScalC.eq; (focus ((repeat constructor); done)); omega) | (apply EvW.fldRow; exact rfl; exact FldC.eq; assumption; omega) | (apply EvW.fldOwn; exact rfl; exact FldC.eq; (focus ((repeat constructor); done)); omega) | (apply EvW.ldFldOwn; exact rfl; exact ScalC.eq; (focus ((repeat constructor); done)); exact fun _ => rfl; omega; exact rfl; exact inferInstance)))
            | refine WC.seq ?_ | refine WC.region ?_ | refine WL.nil ?_ | refine WE.next ?_ | refine WC.block ?_ | refine WC.skip ?_ | refine WC.exit ?_ | refine WE.pass ?_ | refine WE.hit ?_ | refine WE.miss rfl ?_ | refine WE.out ?_ | refine WC.condT rfl ?_ | refine WC.condF rfl ?_ | refine WC.ret ?_ | refine WE.passRet ?_ | refine WE.outRet ?_ | refine WL.wanted rfl rfl rfl ?_ | refine WL.unwanted rfl rfl rfl rfl ?_ | refine WL.unwantedU rfl rfl rfl rfl ?_ | refine WL.unwanted0 rfl rfl rfl ?_ | (apply WL.store; exact rfl; exact rfl; (first | assumption | exact rfl); exact SzC.eq; (first | assumption | exact rfl); (focus ((repeat constructor); done)))
          exact WE.again (s := (i, b, true)) ((i + 1, b, true)) ⟨by simp only []; omega, hst⟩ (by (focus ((repeat (first | exact trivial | (refine ⟨rfl, ?_⟩))); done))) (fun _ h => (by (try simp only []); exact h.keep (by repeat constructor))) (by (try simp only []); omega)
    | false =>
      by_cases h1 : above < t.1
      · cases f with
        | false =>
          rw [if_pos ⟨.inr h1, .inl rfl⟩] at hst
          repeat first
            | (apply WL.q; exact rfl; exact rfl; exact rfl; (first | (apply EvW.move; exact rfl) | (apply EvW.assign; exact rfl) | (apply EvW.fieldAddr0; exact rfl; exact FldC.eq) | (apply EvW.fieldAddr; exact rfl; exact FldC.eq) | (apply EvW.load; exact rfl; exact ScalC.eq; (focus ((repeat constructor); done)); exact rfl) | (apply EvW.ldSeen; exact rfl; exact ScalC.eq; assumption; (first | exact rfl | assumption)) | (apply EvW.ldFld; exact rfl; exact ScalC.eq; assumption; exact fun _ => rfl; omega; exact rfl; exact inferInstance) | (apply EvW.lenL; exact rfl; exact UndC.eq) | (apply EvW.cmpT; exact rfl; exact rfl; exact rfl; omega) | (apply EvW.cmpF; exact rfl; exact rfl; exact rfl; omega) | (apply EvW.cmp; exact rfl; exact rfl; exact rfl) | (apply EvW.arN; exact rfl; exact rfl; exact rfl; refine i64_in ?_ ?_ <;> omega) | (apply EvW.ar; exact rfl; exact rfl; exact rfl) | (apply EvW.pickT; exact rfl; exact rfl) | (apply EvW.pickF; exact rfl; exact rfl) | (apply EvW.notT; exact rfl) | (apply EvW.notF; exact rfl) | (apply EvW.notP; exact rfl) | (apply EvW.loadAgg; exact rfl; exact AggC.eq; exact SzC.eq; (focus ((repeat constructor); done)); (focus ((repeat (first | exact SubL.nil | apply SubL.cons | apply SubL.succ)); done))) | (apply EvW.lenRow; exact rfl; exact UndC.eq; assumption) | (apply EvW.lenOwn; exact rfl; exact UndC.eq; (focus ((repeat constructor); done))) | (apply EvW.idxRow; exact rfl; exact rfl; exact UndC.eq; exact SzC.eq; assumption; omega; omega) | (apply EvW.idxOwn; exact rfl; exact rfl; exact UndC.eq; exact SzC.eq; (focus ((repeat constructor); done)); omega; omega) | (apply EvW.ldInt; exact rfl; exact ScalC.eq; assumption; omega) | (apply EvW.ldIntOwn; exact rfl; exact ScalC.eq; (focus ((repeat constructor); done)); omega) | (apply EvW.fldRow; exact rfl; exact FldC.eq; assumption; omega) | (apply EvW.fldOwn; exact rfl; exact FldC.eq; (focus ((repeat constructor); done)); omega) | (apply EvW.ldFldOwn; exact rfl; exact ScalC.eq; (focus ((repeat constructor); done)); exact fun _ => rfl; omega; exact rfl; exact inferInstance)))
            | refine WC.seq ?_ | refine WC.region ?_ | refine WL.nil ?_ | refine WE.next ?_ | refine WC.block ?_ | refine WC.skip ?_ | refine WC.exit ?_ | refine WE.pass ?_ | refine WE.hit ?_ | refine WE.miss rfl ?_ | refine WE.out ?_ | refine WC.condT rfl ?_ | refine WC.condF rfl ?_ | refine WC.ret ?_ | refine WE.passRet ?_ | refine WE.outRet ?_ | refine WL.wanted rfl rfl rfl ?_ | refine WL.unwanted rfl rfl rfl rfl ?_ | refine WL.unwantedU rfl rfl rfl rfl ?_ | refine WL.unwanted0 rfl rfl rfl ?_ | (apply WL.store; exact rfl; exact rfl; (first | assumption | exact rfl); exact SzC.eq; (first | assumption | exact rfl); (focus ((repeat constructor); done)))
          exact WE.again (s := (i, b, false)) ((i + 1, t.1, true)) ⟨by simp only []; omega, hst⟩ (by (focus ((repeat (first | exact trivial | (refine ⟨rfl, ?_⟩))); done))) (fun _ h => (by (try simp only []); exact h.keep (by repeat constructor))) (by (try simp only []); omega)
        | true =>
          by_cases h2 : t.1 < b
          · rw [if_pos ⟨.inr h1, .inr h2⟩] at hst
            repeat first
              | (apply WL.q; exact rfl; exact rfl; exact rfl; (first | (apply EvW.move; exact rfl) | (apply EvW.assign; exact rfl) | (apply EvW.fieldAddr0; exact rfl; exact FldC.eq) | (apply EvW.fieldAddr; exact rfl; exact FldC.eq) | (apply EvW.load; exact rfl; exact ScalC.eq; (focus ((repeat constructor); done)); exact rfl) | (apply EvW.ldSeen; exact rfl; exact ScalC.eq; assumption; (first | exact rfl | assumption)) | (apply EvW.ldFld; exact rfl; exact ScalC.eq; assumption; exact fun _ => rfl; omega; exact rfl; exact inferInstance) | (apply EvW.lenL; exact rfl; exact UndC.eq) | (apply EvW.cmpT; exact rfl; exact rfl; exact rfl; omega) | (apply EvW.cmpF; exact rfl; exact rfl; exact rfl; omega) | (apply EvW.cmp; exact rfl; exact rfl; exact rfl) | (apply EvW.arN; exact rfl; exact rfl; exact rfl; refine i64_in ?_ ?_ <;> omega) | (apply EvW.ar; exact rfl; exact rfl; exact rfl) | (apply EvW.pickT; exact rfl; exact rfl) | (apply EvW.pickF; exact rfl; exact rfl) | (apply EvW.notT; exact rfl) | (apply EvW.notF; exact rfl) | (apply EvW.notP; exact rfl) | (apply EvW.loadAgg; exact rfl; exact AggC.eq; exact SzC.eq; (focus ((repeat constructor); done)); (focus ((repeat (first | exact SubL.nil | apply SubL.cons | apply SubL.succ)); done))) | (apply EvW.lenRow; exact rfl; exact UndC.eq; assumption) | (apply EvW.lenOwn; exact rfl; exact UndC.eq; (focus ((repeat constructor); done))) | (apply EvW.idxRow; exact rfl; exact rfl; exact UndC.eq; exact SzC.eq; assumption; omega; omega) | (apply EvW.idxOwn; exact rfl; exact rfl; exact UndC.eq; exact SzC.eq; (focus ((repeat constructor); done)); omega; omega) | (apply EvW.ldInt; exact rfl; exact ScalC.eq; assumption; omega) | (apply EvW.ldIntOwn; exact rfl; exact ScalC.eq; (focus ((repeat constructor); done)); omega) | (apply EvW.fldRow; exact rfl; exact FldC.eq; assumption; omega) | (apply EvW.fldOwn; exact rfl; exact FldC.eq; (focus ((repeat constructor); done)); omega) | (apply EvW.ldFldOwn; exact rfl; exact ScalC.eq; (focus ((repeat constructor); done)); exact fun _ => rfl; omega; exact rfl; exact inferInstance)))
              | refine WC.seq ?_ | refine WC.region ?_ | refine WL.nil ?_ | refine WE.next ?_ | refine WC.block ?_ | refine WC.skip ?_ | refine WC.exit ?_ | refine WE.pass ?_ | refine WE.hit ?_ | refine WE.miss rfl ?_ | refine WE.out ?_ | refine WC.condT rfl ?_ | refine WC.condF rfl ?_ | refine WC.ret ?_ | refine WE.passRet ?_ | refine WE.outRet ?_ | refine WL.wanted rfl rfl rfl ?_ | refine WL.unwanted rfl rfl rfl rfl ?_ | refine WL.unwantedU rfl rfl rfl rfl ?_ | refine WL.unwanted0 rfl rfl rfl ?_ | (apply WL.store; exact rfl; exact rfl; (first | assumption | exact rfl); exact SzC.eq; (first | assumption | exact rfl); (focus ((repeat constructor); done)))
            exact WE.again (s := (i, b, true)) ((i + 1, t.1, true)) ⟨by simp only []; omega, hst⟩ (by (focus ((repeat (first | exact trivial | (refine ⟨rfl, ?_⟩))); done))) (fun _ h => (by (try simp only []); exact h.keep (by repeat constructor))) (by (try simp only []); omega)
          · rw [if_neg (fun h => h.2.elim (fun h => by cases h) h2)] at hst
            repeat first
              | (apply WL.q; exact rfl; exact rfl; exact rfl; (first | (apply EvW.move; exact rfl) | (apply EvW.assign; exact rfl) | (apply EvW.fieldAddr0; exact rfl; exact FldC.eq) | (apply EvW.fieldAddr; exact rfl; exact FldC.eq) | (apply EvW.load; exact rfl; exact ScalC.eq; (focus ((repeat constructor); done)); exact rfl) | (apply EvW.ldSeen; exact rfl; exact ScalC.eq; assumption; (first | exact rfl | assumption)) | (apply EvW.ldFld; exact rfl; exact ScalC.eq; assumption; exact fun _ => rfl; omega; exact rfl; exact inferInstance) | (apply EvW.lenL; exact rfl; exact UndC.eq) | (apply EvW.cmpT; exact rfl; exact rfl; exact rfl; omega) | (apply EvW.cmpF; exact rfl; exact rfl; exact rfl; omega) | (apply EvW.cmp; exact rfl; exact rfl; exact rfl) | (apply EvW.arN; exact rfl; exact rfl; exact rfl; refine i64_in ?_ ?_ <;> omega) | (apply EvW.ar; exact rfl; exact rfl; exact rfl) | (apply EvW.pickT; exact rfl; exact rfl) | (apply EvW.pickF; exact rfl; exact rfl) | (apply EvW.notT; exact rfl) | (apply EvW.notF; exact rfl) | (apply EvW.notP; exact rfl) | (apply EvW.loadAgg; exact rfl; exact AggC.eq; exact SzC.eq; (focus ((repeat constructor); done)); (focus ((repeat (first | exact SubL.nil | apply SubL.cons | apply SubL.succ)); done))) | (apply EvW.lenRow; exact rfl; exact UndC.eq; assumption) | (apply EvW.lenOwn; exact rfl; exact UndC.eq; (focus ((repeat constructor); done))) | (apply EvW.idxRow; exact rfl; exact rfl; exact UndC.eq; exact SzC.eq; assumption; omega; omega) | (apply EvW.idxOwn; exact rfl; exact rfl; exact UndC.eq; exact SzC.eq; (focus ((repeat constructor); done)); omega; omega) | (apply EvW.ldInt; exact rfl; exact ScalC.eq; assumption; omega) | (apply EvW.ldIntOwn; exact rfl; exact ScalC.eq; (focus ((repeat constructor); done)); omega) | (apply EvW.fldRow; exact rfl; exact FldC.eq; assumption; omega) | (apply EvW.fldOwn; exact rfl; exact FldC.eq; (focus ((repeat constructor); done)); omega) | (apply EvW.ldFldOwn; exact rfl; exact ScalC.eq; (focus ((repeat constructor); done)); exact fun _ => rfl; omega; exact rfl; exact inferInstance)))
              | refine WC.seq ?_ | refine WC.region ?_ | refine WL.nil ?_ | refine WE.next ?_ | refine WC.block ?_ | refine WC.skip ?_ | refine WC.exit ?_ | refine WE.pass ?_ | refine WE.hit ?_ | refine WE.miss rfl ?_ | refine WE.out ?_ | refine WC.condT rfl ?_ | refine WC.condF rfl ?_ | refine WC.ret ?_ | refine WE.passRet ?_ | refine WE.outRet ?_ | refine WL.wanted rfl rfl rfl ?_ | refine WL.unwanted rfl rfl rfl rfl ?_ | refine WL.unwantedU rfl rfl rfl rfl ?_ | refine WL.unwanted0 rfl rfl rfl ?_ | (apply WL.store; exact rfl; exact rfl; (first | assumption | exact rfl); exact SzC.eq; (first | assumption | exact rfl); (focus ((repeat constructor); done)))
            exact WE.again (s := (i, b, true)) ((i + 1, b, true)) ⟨by simp only []; omega, hst⟩ (by (focus ((repeat (first | exact trivial | (refine ⟨rfl, ?_⟩))); done))) (fun _ h => (by (try simp only []); exact h.keep (by repeat constructor))) (by (try simp only []); omega)
      · rw [if_neg (fun h => h.1.elim (fun h => by cases h) h1)] at hst
        repeat first
          | (apply WL.q; exact rfl; exact rfl; exact rfl; (first | (apply EvW.move; exact rfl) | (apply EvW.assign; exact rfl) | (apply EvW.fieldAddr0; exact rfl; exact FldC.eq) | (apply EvW.fieldAddr; exact rfl; exact FldC.eq) | (apply EvW.load; exact rfl; exact ScalC.eq; (focus ((repeat constructor); done)); exact rfl) | (apply EvW.ldSeen; exact rfl; exact ScalC.eq; assumption; (first | exact rfl | assumption)) | (apply EvW.ldFld; exact rfl; exact ScalC.eq; assumption; exact fun _ => rfl; omega; exact rfl; exact inferInstance) | (apply EvW.lenL; exact rfl; exact UndC.eq) | (apply EvW.cmpT; exact rfl; exact rfl; exact rfl; omega) | (apply EvW.cmpF; exact rfl; exact rfl; exact rfl; omega) | (apply EvW.cmp; exact rfl; exact rfl; exact rfl) | (apply EvW.arN; exact rfl; exact rfl; exact rfl; refine i64_in ?_ ?_ <;> omega) | (apply EvW.ar; exact rfl; exact rfl; exact rfl) | (apply EvW.pickT; exact rfl; exact rfl) | (apply EvW.pickF; exact rfl; exact rfl) | (apply EvW.notT; exact rfl) | (apply EvW.notF; exact rfl) | (apply EvW.notP; exact rfl) | (apply EvW.loadAgg; exact rfl; exact AggC.eq; exact SzC.eq; (focus ((repeat constructor); done)); (focus ((repeat (first | exact SubL.nil | apply SubL.cons | apply SubL.succ)); done))) | (apply EvW.lenRow; exact rfl; exact UndC.eq; assumption) | (apply EvW.lenOwn; exact rfl; exact UndC.eq; (focus ((repeat constructor); done))) | (apply EvW.idxRow; exact rfl; exact rfl; exact UndC.eq; exact SzC.eq; assumption; omega; omega) | (apply EvW.idxOwn; exact rfl; exact rfl; exact UndC.eq; exact SzC.eq; (focus ((repeat constructor); done)); omega; omega) | (apply EvW.ldInt; exact rfl; exact ScalC.eq; assumption; omega) | (apply EvW.ldIntOwn; exact rfl; exact ScalC.eq; (focus ((repeat constructor); done)); omega) | (apply EvW.fldRow; exact rfl; exact FldC.eq; assumption; omega) | (apply EvW.fldOwn; exact rfl; exact FldC.eq; (focus ((repeat constructor); done)); omega) | (apply EvW.ldFldOwn; exact rfl; exact ScalC.eq; (focus ((repeat constructor); done)); exact fun _ => rfl; omega; exact rfl; exact inferInstance)))
          | refine WC.seq ?_ | refine WC.region ?_ | refine WL.nil ?_ | refine WE.next ?_ | refine WC.block ?_ | refine WC.skip ?_ | refine WC.exit ?_ | refine WE.pass ?_ | refine WE.hit ?_ | refine WE.miss rfl ?_ | refine WE.out ?_ | refine WC.condT rfl ?_ | refine WC.condF rfl ?_ | refine WC.ret ?_ | refine WE.passRet ?_ | refine WE.outRet ?_ | refine WL.wanted rfl rfl rfl ?_ | refine WL.unwanted rfl rfl rfl rfl ?_ | refine WL.unwantedU rfl rfl rfl rfl ?_ | refine WL.unwanted0 rfl rfl rfl ?_ | (apply WL.store; exact rfl; exact rfl; (first | assumption | exact rfl); exact SzC.eq; (first | assumption | exact rfl); (focus ((repeat constructor); done)))
        exact WE.again (s := (i, b, f)) ((i + 1, b, f)) ⟨by simp only []; omega, hst⟩ (by (focus ((repeat (first | exact trivial | (refine ⟨rfl, ?_⟩))); done))) (fun _ h => (by (try simp only []); exact h.keep (by repeat constructor))) (by (try simp only []); omega)
  · obtain rfl : i = l.length := by omega
    rw [List.take_length] at hb
    rw [hb]
    repeat first
      | (apply WL.q; exact rfl; exact rfl; exact rfl; (first | (apply EvW.move; exact rfl) | (apply EvW.assign; exact rfl) | (apply EvW.fieldAddr0; exact rfl; exact FldC.eq) | (apply EvW.fieldAddr; exact rfl; exact FldC.eq) | (apply EvW.load; exact rfl; exact ScalC.eq; (focus ((repeat constructor); done)); exact rfl) | (apply EvW.ldSeen; exact rfl; exact ScalC.eq; assumption; (first | exact rfl | assumption)) | (apply EvW.ldFld; exact rfl; exact ScalC.eq; assumption; exact fun _ => rfl; omega; exact rfl; exact inferInstance) | (apply EvW.lenL; exact rfl; exact UndC.eq) | (apply EvW.cmpT; exact rfl; exact rfl; exact rfl; omega) | (apply EvW.cmpF; exact rfl; exact rfl; exact rfl; omega) | (apply EvW.cmp; exact rfl; exact rfl; exact rfl) | (apply EvW.arN; exact rfl; exact rfl; exact rfl; refine i64_in ?_ ?_ <;> omega) | (apply EvW.ar; exact rfl; exact rfl; exact rfl) | (apply EvW.pickT; exact rfl; exact rfl) | (apply EvW.pickF; exact rfl; exact rfl) | (apply EvW.notT; exact rfl) | (apply EvW.notF; exact rfl) | (apply EvW.notP; exact rfl) | (apply EvW.loadAgg; exact rfl; exact AggC.eq; exact SzC.eq; (focus ((repeat constructor); done)); (focus ((repeat (first | exact SubL.nil | apply SubL.cons | apply SubL.succ)); done))) | (apply EvW.lenRow; exact rfl; exact UndC.eq; assumption) | (apply EvW.lenOwn; exact rfl; exact UndC.eq; (focus ((repeat constructor); done))) | (apply EvW.idxRow; exact rfl; exact rfl; exact UndC.eq; exact SzC.eq; assumption; omega; omega) | (apply EvW.idxOwn; exact rfl; exact rfl; exact UndC.eq; exact SzC.eq; (focus ((repeat constructor); done)); omega; omega) | (apply EvW.ldInt; exact rfl; exact ScalC.eq; assumption; omega) | (apply EvW.ldIntOwn; exact rfl; exact ScalC.eq; (focus ((repeat constructor); done)); omega) | (apply EvW.fldRow; exact rfl; exact FldC.eq; assumption; omega) | (apply EvW.fldOwn; exact rfl; exact FldC.eq; (focus ((repeat constructor); done)); omega) | (apply EvW.ldFldOwn; exact rfl; exact ScalC.eq; (focus ((repeat constructor); done)); exact fun _ => rfl; omega; exact rfl; exact inferInstance)))
      | refine WC.seq ?_ | refine WC.region ?_ | refine WL.nil ?_ | refine WE.next ?_ | refine WC.block ?_ | refine WC.skip ?_ | refine WC.exit ?_ | refine WE.pass ?_ | refine WE.hit ?_ | refine WE.miss rfl ?_ | refine WE.out ?_ | refine WC.condT rfl ?_ | refine WC.condF rfl ?_ | refine WC.ret ?_ | refine WE.passRet ?_ | refine WE.outRet ?_ | refine WL.wanted rfl rfl rfl ?_ | refine WL.unwanted rfl rfl rfl rfl ?_ | refine WL.unwantedU rfl rfl rfl rfl ?_ | refine WL.unwanted0 rfl rfl rfl ?_ | (apply WL.store; exact rfl; exact rfl; (first | assumption | exact rfl); exact SzC.eq; (first | assumption | exact rfl); (focus ((repeat constructor); done)))
    refine WE.keep (xs := []) (by repeat constructor) ?_
    refine WE.retN (l := [6, 7]) rfl rfl rfl ?_
    exact ⟨rfl, rfl⟩
end Go.Proofs.Ytoaajdmacngnjaa
namespace Go.BK
theorem EvW.cast {P : Program} {w0 : World} {S0 : BSet} {n : Nat} {F : Fr} {A : List HP} {o : Oper} {v v' : Value} (e : v = v') (h : EvW P w0 S0 n F A o v) : EvW P w0 S0 n F A o v' := e ▸ h
theorem NewW.conv {P : Program} {w0 : World} {S0 : BSet} {n : Nat} {F : Fr} {A : List HP} {out out' : Nat × Value → List HP} {o : Oper} {val : Nat × Value → Value} (h : NewW P w0 S0 n F A out' o val) (k : ∀ p w, St w0 S0 (out' p) w → St w0 S0 (out p) w) : NewW P w0 S0 n F A out o val :=
  ⟨fun Q K a w ha hs hK => h.go Q K a w ha hs fun p w' hs' => hK p w' (k p w' hs')⟩
end Go.BK
namespace Go.Proofs.Ytoaajdmacngnjaa
open Go.RowKit Go.BK
theorem St.zeroT {w0 w : World} {S0 : BSet} {r : List HP} {k e sz : Nat} (h : St w0 S0 (.blk k ([] : List Value).toArray e :: r) w) : St w0 S0 (.own e sz (.slice (some ⟨k, 0, none⟩) 0 0) 0 [] :: r) w :=
  h.mono fun S w hs => star_mono hs (fun S h => blk_own (sp := []) h (Nat.zero_mul _).symm (Nat.le_refl _) (Nat.zero_mul _).symm) fun _ h => h
theorem flat_telS (l : List Tel) : (l.flatMap telC).length = l.length * 2 := by
  induction l with
  | nil => rfl
  | cons t l ih => rw [List.flatMap_cons, List.length_append, ih, List.length_cons]; show 2 + _ = _; omega
def isP (p : Int) (t : Tel) : Bool := decide (t.1 = p)
def peerO (md : Int → Int) (due held : List Tel) (p : Int) : List Tel := due.filter (isP p) ++ (if md p = 5 then [] else (held.filter (isP p)).reverse)
def dStep (md : Int → Int) (s : List Tel × List Tel × List Tel) (t : Tel) : List Tel × List Tel × List Tel :=
  if md t.1 = 0 then (s.1 ++ [t], s.2.1, s.2.2) else if md t.1 = 2 then (s.1, s.2.1 ++ [t], s.2.2) else if md t.1 = 3 then (s.1 ++ [t], s.2.1 ++ [t], s.2.2) else if md t.1 = 4 then (s.1 ++ [(t.1, spoilF t.2)], s.2.1, s.2.2) else if md t.1 = 5 then (s.1, s.2.1, s.2.2 ++ [t]) else s
def isHeld (md : Int → Int) (t : Tel) : Bool := decide (md t.1 = 5)
def dPass (md : Int → Int) (due held l : List Tel) (K : List Int) : List Tel × List Tel × List Tel := l.foldl (dStep md) (K.flatMap (peerO md due held), [], held.filter (isHeld md))
theorem tel_take (l : List Tel) (i : Nat) (h : i < l.length) : l.take (i + 1) = l.take i ++ [l.getD i default] := by
  rw [List.take_add_one, List.getD_eq_getElem?_getD, List.getElem?_eq_getElem h]; rfl
theorem dPass_take (md : Int → Int) (due held l : List Tel) (K : List Int) (i : Nat) (h : i < l.length) : dPass md due held (l.take (i + 1)) K = dStep md (dPass md due held (l.take i) K) (l.getD i default) := by
  rw [tel_take l i h]
  unfold dPass
  rw [List.foldl_append]; rfl
theorem filter_yes {p : Tel → Bool} (l : List Tel) (i : Nat) (h : i < l.length) (hp : p (l.getD i default) = true) : (l.take (i + 1)).filter p = (l.take i).filter p ++ [l.getD i default] := by
  rw [tel_take l i h, List.filter_append, List.filter_cons_of_pos hp]; rfl
theorem filter_no {p : Tel → Bool} (l : List Tel) (i : Nat) (h : i < l.length) (hp : p (l.getD i default) = false) : (l.take (i + 1)).filter p = (l.take i).filter p := by
  rw [tel_take l i h, List.filter_append, List.filter_cons_of_neg (by rw [hp]; decide), List.filter_nil, List.append_nil]
/-- The last r of a list that are a peer's, from the end. -/
def backP (l : List Tel) (p : Int) (r : Nat) : List Tel := ((l.drop (l.length - r)).filter (isP p)).reverse
theorem back_drop (l : List Tel) (r : Nat) (h : r < l.length) : l.drop (l.length - (r + 1)) = l.getD (l.length - 1 - r) default :: l.drop (l.length - r) := by
  have h1 : l.length - 1 - r < l.length := by omega
  rw [List.getD_eq_getElem?_getD, List.getElem?_eq_getElem h1, show l.length - (r + 1) = l.length - 1 - r by omega, List.drop_eq_getElem_cons h1, show l.length - 1 - r + 1 = l.length - r by omega]
  rfl
theorem back_yes (l : List Tel) (p : Int) (r : Nat) (h : r < l.length) (hp : (l.getD (l.length - 1 - r) default).1 = p) : backP l p (r + 1) = backP l p r ++ [l.getD (l.length - 1 - r) default] := by
  unfold backP
  rw [back_drop l r h, List.filter_cons_of_pos (by unfold isP; exact decide_eq_true hp), List.reverse_cons]
theorem back_no (l : List Tel) (p : Int) (r : Nat) (h : r < l.length) (hp : (l.getD (l.length - 1 - r) default).1 ≠ p) : backP l p (r + 1) = backP l p r := by
  unfold backP
  rw [back_drop l r h, List.filter_cons_of_neg (by unfold isP; rw [decide_eq_false hp]; decide)]
theorem back_all (l : List Tel) (p : Int) : backP l p l.length = (l.filter (isP p)).reverse := by
  unfold backP; rw [Nat.sub_self, List.drop_zero]
theorem back_0 (l : List Tel) (p : Int) : backP l p 0 = [] := by
  unfold backP; rw [Nat.sub_zero, List.drop_length]; rfl
theorem back_len (l : List Tel) (p : Int) (r : Nat) : (backP l p r).length ≤ l.length := by
  unfold backP
  rw [List.length_reverse]
  exact Nat.le_trans (List.length_filter_le _ _) (by rw [List.length_drop]; omega)
/-- What the least is. -/
theorem least_is (l : List Tel) (above : Int) (first : Bool) : (∀ t ∈ l, (first = true ∨ above < t.1) → (leastF l above first).2 = true ∧ (leastF l above first).1 ≤ t.1) ∧ ((leastF l above first).2 = true → (leastF l above first).1 ∈ l.map (·.1) ∧ (first = true ∨ above < (leastF l above first).1)) := by
  have key : ∀ (l done : List Tel) (b : Int × Bool), ((∀ t ∈ done, (first = true ∨ above < t.1) → b.2 = true ∧ b.1 ≤ t.1) ∧ (b.2 = true → b.1 ∈ done.map (·.1) ∧ (first = true ∨ above < b.1))) →
      ((∀ t ∈ done ++ l, (first = true ∨ above < t.1) → (l.foldl (leastS above first) b).2 = true ∧ (l.foldl (leastS above first) b).1 ≤ t.1) ∧ ((l.foldl (leastS above first) b).2 = true → (l.foldl (leastS above first) b).1 ∈ (done ++ l).map (·.1) ∧ (first = true ∨ above < (l.foldl (leastS above first) b).1))) := by
    intro l
    induction l with
    | nil => intro done b h; rw [List.append_nil]; exact h
    | cons x l ih =>
      intro done b h
      have := ih (done ++ [x]) (leastS above first b x) (by
        obtain ⟨h1, h2⟩ := h
        unfold leastS
        by_cases hc : (first = true ∨ above < x.1) ∧ (b.2 = false ∨ x.1 < b.1)
        · rw [if_pos hc]
          refine ⟨fun t ht hp => ⟨rfl, ?_⟩, fun _ => ⟨by simp, hc.1⟩⟩
          rcases List.mem_append.1 ht with ht | ht
          · obtain ⟨h3, h4⟩ := h1 t ht hp
            rcases hc.2 with h5 | h5
            · rw [h5] at h3; cases h3
            · show x.1 ≤ t.1; omega
          · rw [List.mem_singleton] at ht; subst ht; exact Int.le_refl _
        · rw [if_neg hc]
          refine ⟨fun t ht hp => ?_, fun hb => ?_⟩
          · rcases List.mem_append.1 ht with ht | ht
            · exact h1 t ht hp
            · rw [List.mem_singleton] at ht; subst ht
              cases hb2 : b.2 with
              | false => exact absurd ⟨hp, .inl hb2⟩ hc
              | true => refine ⟨rfl, ?_⟩; exact Int.not_lt.1 fun h5 => hc ⟨hp, .inr h5⟩
          · obtain ⟨h3, h4⟩ := h2 hb
            exact ⟨by rw [List.map_append]; exact List.mem_append_left _ h3, h4⟩)
      rw [List.append_assoc] at this
      exact this
  have := key l [] (0, false) ⟨(fun t h => by cases h), (fun h => by cases h)⟩
  rw [List.nil_append] at this
  exact this
structure KeysOf (K : List Int) (l : List Tel) : Prop where
  lt : K.Pairwise (· < ·)
  mem : ∀ p, p ∈ K ↔ p ∈ l.map (·.1)
theorem key_at {K : List Int} {i : Nat} (h : i < K.length) : K.getD i 0 ∈ K := by rw [List.getD_eq_getElem?_getD, List.getElem?_eq_getElem h]; exact List.getElem_mem h
theorem key_lt {K : List Int} (h : K.Pairwise (· < ·)) {i j : Nat} (hij : i < j) (hj : j < K.length) : K.getD i 0 < K.getD j 0 := by
  rw [List.getD_eq_getElem?_getD, List.getElem?_eq_getElem (show i < K.length by omega), List.getD_eq_getElem?_getD, List.getElem?_eq_getElem hj]
  exact List.pairwise_iff_getElem.1 h i j (by omega) hj hij
theorem key_ix {K : List Int} {p : Int} (h : p ∈ K) : ∃ i, i < K.length ∧ K.getD i 0 = p := by
  obtain ⟨i, hi, e⟩ := List.getElem_of_mem h
  exact ⟨i, hi, by rw [List.getD_eq_getElem?_getD, List.getElem?_eq_getElem hi]; exact e⟩
theorem least_first {K : List Int} {l : List Tel} (h : KeysOf K l) (h0 : 0 < K.length) : leastF l 0 true = (K.getD 0 0, true) := by
  obtain ⟨h1, h2⟩ := least_is l 0 true
  have hm := (h.mem _).1 (key_at h0)
  obtain ⟨t, ht, e⟩ := List.mem_map.1 hm
  obtain ⟨h3, h4⟩ := h1 t ht (.inl rfl)
  obtain ⟨h5, _⟩ := h2 h3
  obtain ⟨i, hi, e2⟩ := key_ix ((h.mem _).2 h5)
  have h6 : (leastF l 0 true).1 = K.getD 0 0 := by
    rw [e] at h4
    by_cases hz : i = 0
    · rw [← e2, hz]
    · have := key_lt h.lt (show 0 < i by omega) hi; rw [e2] at this; omega
  exact Prod.ext h6 h3
theorem least_none {K : List Int} {l : List Tel} (h : KeysOf K l) (h0 : K.length = 0) : (leastF l 0 true).2 = false := by
  obtain ⟨h1, h2⟩ := least_is l 0 true
  cases hb : (leastF l 0 true).2 with
  | false => rfl
  | true =>
    have := (h.mem _).2 (h2 hb).1
    rw [List.eq_nil_of_length_eq_zero h0] at this; cases this
theorem least_next {K : List Int} {l : List Tel} (h : KeysOf K l) {j : Nat} (hj : j + 1 < K.length) : leastF l (K.getD j 0) false = (K.getD (j + 1) 0, true) := by
  obtain ⟨h1, h2⟩ := least_is l (K.getD j 0) false
  have hm := (h.mem _).1 (key_at hj)
  obtain ⟨t, ht, e⟩ := List.mem_map.1 hm
  obtain ⟨h3, h4⟩ := h1 t ht (.inr (by rw [e]; exact key_lt h.lt (Nat.lt_succ_self j) hj))
  obtain ⟨h5, h6⟩ := h2 h3
  have h6 : K.getD j 0 < (leastF l (K.getD j 0) false).1 := h6.resolve_left (fun h => by cases h)
  obtain ⟨i, hi, e2⟩ := key_ix ((h.mem _).2 h5)
  have h7 : (leastF l (K.getD j 0) false).1 = K.getD (j + 1) 0 := by
    rw [e] at h4
    rcases Nat.lt_trichotomy i (j + 1) with hlt | heq | hgt
    · rcases Nat.lt_or_eq_of_le (Nat.le_of_lt_succ hlt) with hl2 | hl2
      · have := key_lt h.lt hl2 (by omega); rw [e2] at this; omega
      · rw [hl2] at e2; omega
    · rw [← e2, heq]
    · have := key_lt h.lt hgt hi; rw [e2] at this; omega
  exact Prod.ext h7 h3
theorem least_last {K : List Int} {l : List Tel} (h : KeysOf K l) {j : Nat} (hj : j + 1 = K.length) : (leastF l (K.getD j 0) false).2 = false := by
  obtain ⟨h1, h2⟩ := least_is l (K.getD j 0) false
  cases hb : (leastF l (K.getD j 0) false).2 with
  | false => rfl
  | true =>
    obtain ⟨h5, h6⟩ := h2 hb
    have h6 : K.getD j 0 < (leastF l (K.getD j 0) false).1 := h6.resolve_left (fun h => by cases h)
    obtain ⟨i, hi, e2⟩ := key_ix ((h.mem _).2 h5)
    rcases Nat.lt_or_eq_of_le (show i ≤ j by omega) with hl | hl
    · have := key_lt h.lt hl (by omega); rw [e2] at this; omega
    · rw [hl] at e2; omega
end Go.Proofs.Ytoaajdmacngnjaa
