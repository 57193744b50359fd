/- CellsPlay: every row of calls is answered as the document says. -/
import Derived.Test.YtakffjjnogpolaaCellsR
namespace Go.Proofs.Ytakffjjnogpolaa
open Go.RowKit Go.BK

def spareB : List UInt8 := [115, 112, 97, 114, 101]
/-- A call. -/
structure Op where
  k : Int
  pg : Int
  pos : Int
  n : Int
  pv : Value
  ps : List (List UInt8)
  cv : Value
  cs : List Cut
instance : Inhabited Op := ⟨⟨0, 0, 0, 0, .slice none 0 0, [], .slice none 0 0, []⟩⟩
def opC (o : Op) : List Value := [i64 o.k, i64 o.pg, i64 o.pos, i64 o.n, o.pv, o.cv]
structure Op.Ok (o : Op) (w : World) (S : BSet) : Prop where
  parts : Sees w S (.row 1 o.pv o.ps.length (o.ps.map str))
  cuts : Sees w S (.row 2 o.cv o.cs.length (o.cs.flatMap cutC))
  pl : o.ps.length ≤ 1048576
  fl : o.ps.flatten.length ≤ 1048576
  cl : o.cs.length ≤ 1048576
theorem op_at {xs : List Op} {w : World} {S : BSet} (h : ∀ x ∈ xs, x.Ok w S) {i : Nat} (hi : i < xs.length) : (xs.getD i default).Ok w S := by
  rw [List.getD_eq_getElem?_getD, List.getElem?_eq_getElem hi]
  exact h _ (List.getElem_mem hi)
theorem op_one {x : Op} {w : World} {S : BSet} (h : x.Ok w S) : (opC x).all (·.oneCell') = true := by
  have h1 := h.parts.row_one
  have h2 := h.cuts.row_one
  simp [opC, h1, h2]
  refine ⟨rfl, rfl, rfl, rfl⟩
theorem burn_to (b : Nat) (o : Option Nat) (m : Mem) (K : Nat) (mp : List (Int × Value)) (p pos : Int) (v : Value) (ps : List (List UInt8)) (t : List UInt8) (ct : Option Int) (e : Int) (M2 : Mem) (w : World) (S : BSet) (hS : (sepL [.blk b (Value.map (o) :: i64 (m).ar :: i64 (m).ac :: Value.bool (m).off :: ((m).pages.map str ++ (m).worn.map i64)).toArray 41, .omap o mp]).sat S w) (hv : Sees w S (.row 1 v ps.length (ps.map str))) (hpl : ps.length ≤ 140737488355328) (ht : ps.flatten = t) (h : m.bad p pos t = 0) (hm : m.wf K) (hK : K ≤ 1099511627776) (ho : o = none → mp = []) (hc : mget m.ar mp = ct.map i64) (he : (cutF ct t.length).2 = e) (hM : (m.burnt p pos t (cutF ct t.length).1).act ct = M2) :
    Tri Try.prog 11 #[ptr b 0, i64 p, i64 pos, v] w S fun u A => u = i64 e ∧ A = [.blk b (Value.map (o) :: i64 (M2).ar :: i64 (M2).ac :: Value.bool (M2).off :: ((M2).pages.map str ++ (M2).worn.map i64)).toArray 41, .omap o (mdel m.ar mp)] := by
  subst he
  subst hM
  exact burn_spec b o m K mp p pos v ps t ct w S hS hv hpl ht h hm hK ho hc
theorem erase_to (b : Nat) (o : Option Nat) (m : Mem) (K : Nat) (mp : List (Int × Value)) (p : Int) (ct : Option Int) (e : Int) (M2 : Mem) (w : World) (S : BSet) (hS : (sepL [.blk b (Value.map (o) :: i64 (m).ar :: i64 (m).ac :: Value.bool (m).off :: ((m).pages.map str ++ (m).worn.map i64)).toArray 41, .omap o mp]).sat S w) (h : m.place p 0 = 0) (hm : m.wf K) (hK : K ≤ 1099511627776) (ho : o = none → mp = []) (hc : mget m.ar mp = ct.map i64) (he : (cutF ct 4096).2 = e) (hM : (m.erased p (cutF ct 4096).1).act ct = M2) :
    Tri Try.prog 15 #[ptr b 0, i64 p] w S fun u A => u = i64 e ∧ A = [.blk b (Value.map (o) :: i64 (M2).ar :: i64 (M2).ac :: Value.bool (M2).off :: ((M2).pages.map str ++ (M2).worn.map i64)).toArray 41, .omap o (mdel m.ar mp)] := by
  subst he
  subst hM
  exact erase_spec b o m K mp p ct w S hS h hm hK ho hc
theorem rburn_to (r : Nat) (bv wv cv : Value) (pgs : List Pg) (m : Mem) (K : Nat) (p pos : Int) (t : List UInt8) (cs : List Cut) (pgs2 : List Pg) (ct : Option Int) (e : Int) (M2 : Mem) (w : World) (S : BSet) (hS : (sepL [.blk r #[bv, wv, cv, i64 (m).ar, i64 (m).ac, .bool (m).off] 59, .own 31 1 bv 24 ((pgs).map pgV), sepL ((pgs).map (pgH 5)), .own 43 2 cv (cs).length ((cs).flatMap cutC)]).sat S w) (hm : m.wf K) (hP : PgOk pgs m) (hcl : cs.length ≤ 17592186044416) (hK : K ≤ 4611686018427387904) (h : m.bad p pos t = 0) (hct : cutAt m.ar cs = ct) (he : (cutF ct t.length).2 = e) (hM : (m.burnt p pos t (cutF ct t.length).1).act ct = M2) (hg : pgs.set p.toNat ⟨(pgs.getD p.toNat default).v, put (m.page p) t pos.toNat (cutF ct t.length).1.toNat⟩ = pgs2) :
    Tri Try.prog 19 #[ptr r 0, i64 p, i64 pos, str t] w S fun u A => u = i64 e ∧ A = [.blk r #[bv, wv, cv, i64 (M2).ar, i64 (M2).ac, .bool (M2).off] 59, .own 31 1 bv 24 ((pgs2).map pgV), sepL ((pgs2).map (pgH 5)), .own 43 2 cv (cs).length ((cs).flatMap cutC)] := by
  subst he
  subst hM
  subst hct
  exact rburn_spec r bv wv cv pgs m K p pos t cs pgs2 w S hS hm hP hcl hK h hg
theorem rerase_to (r : Nat) (bv wv cv : Value) (pgs : List Pg) (m : Mem) (K : Nat) (p : Int) (cs : List Cut) (pgs2 : List Pg) (ct : Option Int) (e : Int) (M2 : Mem) (w : World) (S : BSet) (hS : (sepL [.blk r #[bv, wv, cv, i64 (m).ar, i64 (m).ac, .bool (m).off] 59, .own 31 1 bv 24 ((pgs).map pgV), sepL ((pgs).map (pgH 5)), .own 3 1 wv 24 ((m).worn.map i64), .own 43 2 cv (cs).length ((cs).flatMap cutC)]).sat S w) (hm : m.wf K) (hP : PgOk pgs m) (hcl : cs.length ≤ 17592186044416) (hK : K ≤ 1099511627776) (h1 : m.place p 0 = 0) (hct : cutAt m.ar cs = ct) (he : (cutF ct 4096).2 = e) (hM : (m.erased p (cutF ct 4096).1).act ct = M2) (hg : pgs.set p.toNat ⟨(pgs.getD p.toNat default).v, put (m.page p) (bareB 4096) 0 (cutF ct 4096).1.toNat⟩ = pgs2) :
    Tri Try.prog 21 #[ptr r 0, i64 p] w S fun u A => u = i64 e ∧ A = [.blk r #[bv, wv, cv, i64 (M2).ar, i64 (M2).ac, .bool (M2).off] 59, .own 31 1 bv 24 ((pgs2).map pgV), sepL ((pgs2).map (pgH 5)), .own 3 1 wv 24 ((M2).worn.map i64), .own 43 2 cv (cs).length ((cs).flatMap cutC)] := by
  subst he
  subst hM
  subst hct
  exact rerase_spec r bv wv cv pgs m K p cs pgs2 w S hS hm hP hcl hK h1 hg
theorem erased_pages {pgs : List Pg} {m : Mem} {p : Int} {ct : Option Int} (h : PgOk pgs m) (h0 : 0 ≤ p ∧ p < 24) : PgOk (pgs.set p.toNat ⟨(pgs.getD p.toNat default).v, put (m.page p) (bareB 4096) 0 (cutF ct 4096).1.toNat⟩) ((m.erased p (cutF ct 4096).1).act ct) := by
  have hn := cutF_bd ct 4096 (by decide)
  have := h.erased (n := (cutF ct 4096).1.toNat) (ct := ct) h0 (by omega)
  rwa [show (((cutF ct 4096).1.toNat : Nat) : Int) = (cutF ct 4096).1 by omega] at this
structure PlayI (m : Mem) (o : Option Nat) (mp : List (Int × Value)) (pgs : List Pg) (cs : List Cut) (K : Nat) : Prop where
  wf : m.wf K
  pages : PgOk pgs m
  none' : o = none → mp = []
  cuts : Alike mp cs m.ar
  few : cs.length ≤ 1048576
theorem PlayI.start {pgs : List Pg} (h : PgOk pgs Mem.new) : PlayI Mem.new none [] pgs [] 0 := ⟨new_wf, h, fun _ => rfl, alike_nil, by decide⟩
theorem PlayI.le {m : Mem} {o : Option Nat} {mp : List (Int × Value)} {pgs : List Pg} {cs : List Cut} {K K' : Nat} (h : PlayI m o mp pgs cs K) (hk : K ≤ K') : PlayI m o mp pgs cs K' := ⟨h.wf.le hk, h.pages, h.none', h.cuts, h.few⟩
theorem PlayI.arm {m : Mem} {o : Option Nat} {mp : List (Int × Value)} {pgs : List Pg} {cs cs2 : List Cut} {K : Nat} (h : PlayI m o mp pgs cs K) (mb : Nat) (h2 : cs2.length ≤ 1048576) : PlayI { m with ar := 0 } (some mb) (armM cs2) pgs cs2 K :=
  ⟨⟨Int.le_refl _, by show (0 : Int) ≤ K; omega, h.wf.ac0, h.wf.ac1, h.wf.pl, h.wf.wl, h.wf.p, h.wf.w⟩, ⟨h.pages.len, h.pages.eq⟩, fun e => (by cases e), arm_alike cs2, h2⟩
theorem PlayI.again {m : Mem} {o : Option Nat} {mp : List (Int × Value)} {pgs pgs2 : List Pg} {cs : List Cut} {K : Nat} (h : PlayI m o mp pgs cs K) (h2 : PgOk pgs2 m.again) : PlayI m.again none [] pgs2 [] K := ⟨again_wf h.wf, h2, fun _ => rfl, alike_nil, by decide⟩
theorem mdel_none {o : Option Nat} {mp : List (Int × Value)} {a : Int} (h : o = none → mp = []) : o = none → mdel a mp = [] := fun e => by rw [h e]; rfl
def ovw (cs : List Cut) (i : Nat) : List Cut := mix (List.replicate cs.length ⟨0, 7⟩) cs i
theorem ovw_at {cs : List Cut} {i : Nat} (h : i < cs.length) : (ovw cs i).getD i default = cs.getD i default := by
  unfold ovw mix
  rw [List.getD_eq_getElem?_getD, List.getD_eq_getElem?_getD, List.getElem?_append_right (by rw [List.length_take, List.length_replicate]; omega), List.length_take, List.length_replicate, Nat.min_eq_left (by omega), Nat.sub_self, List.getElem?_drop]
  rfl
theorem ovw_set {cs : List Cut} {i : Nat} (h : i < cs.length) : (ovw cs i).set i ⟨0, 7⟩ = ovw cs (i + 1) := by
  unfold ovw
  have := mix_set (a := List.replicate cs.length (⟨0, 7⟩ : Cut)) (b := cs) (k := i) (d := default) (by rw [List.length_replicate]; exact h) h
  rwa [getD_rep cs.length _ _ h] at this
theorem ovw_length (cs : List Cut) {i : Nat} (h : i ≤ cs.length) : (ovw cs i).length = cs.length := mix_length (List.length_replicate ..) rfl h
theorem read_all {m : Mem} {K : Nat} {p : Int} (hm : m.wf K) (hp : 0 ≤ p ∧ p < 24) : m.again.read p 0 4096 = (m.page p, 0) := by
  have h := (hm.page hp.1 hp.2).2
  unfold Mem.read
  have hpl : m.again.place p 0 = 0 := place_ok rfl hp (by decide)
  rw [hpl, if_neg (fun k => k rfl), if_neg (by omega)]
  show (((m.page p).take 4096).drop 0, (0 : Int)) = _
  rw [List.take_of_length_le (by omega)]; rfl
set_option maxRecDepth 8000 in
set_option maxHeartbeats 2000000 in
theorem cellsPlay_law (v : Value) (xs : List Op) (w : World) (S : BSet) (hS : (sepL []).sat S w) (hv : Sees w S (.row 6 v xs.length (xs.flatMap opC))) (hn : xs.length ≤ 1048576) (hx : ∀ x ∈ xs, x.Ok w S) :
    Tri Try.prog 5 #[v] w S fun u A => u = .bool true := by
  refine Tri.enter (l := [v]) Try.func5 rfl Try.ntmps5 rfl [(0, v)] (subA rfl) hS ?_
  repeat first
    | (apply WL.q; exact rfl; exact rfl; exact rfl; (first | (apply EvW.assign; exact rfl)))
    | refine WC.seq ?_ | refine WC.region ?_ | refine WL.nil ?_ | refine WE.next ?_
  try refine WL.wanted rfl rfl rfl ?_
  apply WL.callA ([])
  · exact rfl
  · exact rfl
  · exact fun w => Try.call9 _ w
  · (focus ((repeat (first | exact TakeL.nil | apply TakeL.cons | exact Take.head | apply Take.tail)); done))
  · exact fun w1 S1 hS1 hs1 ho1 => lives07_spec w1 S1 hS1
  rintro _ _ ⟨rfl, rfl⟩
  first | refine WL.app4 ?_ | refine WL.app3 ?_ | refine WL.app2 ?_ | refine WL.app1 ?_ | refine WL.app0 ?_ | skip
  repeat first
    | (apply WL.q; exact rfl; exact rfl; exact rfl; (first | (apply EvW.notT; exact rfl)))
    | refine WC.seq ?_ | refine WC.region ?_ | refine WL.nil ?_ | refine WE.next ?_ | refine WC.skip ?_ | refine WC.condF rfl ?_
  try refine WL.wanted rfl rfl rfl ?_
  apply WL.callA ([])
  · exact rfl
  · exact rfl
  · exact fun w => Try.call10 _ w
  · (focus ((repeat (first | exact TakeL.nil | apply TakeL.cons | exact Take.head | apply Take.tail)); done))
  · exact fun w1 S1 hS1 hs1 ho1 => new_spec w1 S1 hS1
  rintro _ _ ⟨b0, rfl, rfl⟩
  first | refine WL.app4 ?_ | refine WL.app3 ?_ | refine WL.app2 ?_ | refine WL.app1 ?_ | refine WL.app0 ?_ | skip
  refine WL.omapNil ?_
  skip
  try refine WL.wanted rfl rfl rfl ?_
  apply WL.callA ([])
  · exact rfl
  · exact rfl
  · exact fun w => Try.call18 _ w
  · (focus ((repeat (first | exact TakeL.nil | apply TakeL.cons | exact Take.head | apply Take.tail)); done))
  · exact fun w1 S1 hS1 hs1 ho1 => rnew_spec w1 S1 hS1
  rintro _ _ ⟨r0, bv0, wv0, pgs0, rfl, rfl, hP0⟩
  first | refine WL.app4 ?_ | refine WL.app3 ?_ | refine WL.app2 ?_ | refine WL.app1 ?_ | refine WL.app0 ?_ | skip
  repeat first
    | (apply WL.q; exact rfl; exact rfl; exact rfl; (first | (apply EvW.move; exact rfl) | (apply EvW.assign; exact rfl) | (apply EvW.lenRow; exact rfl; exact UndC.eq; assumption)))
    | refine WC.seq ?_ | refine WC.region ?_ | refine WL.nil ?_ | refine WE.next ?_ | refine WC.block ?_
  refine WC.loopK (σ := Nat × Nat × Option Nat × List (Int × Value) × Nat × Value × Value × Value × List Pg × Mem × List Cut) [23, 24] (fun s => [(3, ptr s.2.1 0), (4, ptr s.2.2.2.2.1 0), (25, i64 s.1)]) (fun s => [.blk s.2.1 (Value.map (s.2.2.1) :: i64 (s.2.2.2.2.2.2.2.2.2.1).ar :: i64 (s.2.2.2.2.2.2.2.2.2.1).ac :: Value.bool (s.2.2.2.2.2.2.2.2.2.1).off :: ((s.2.2.2.2.2.2.2.2.2.1).pages.map str ++ (s.2.2.2.2.2.2.2.2.2.1).worn.map i64)).toArray 41, .omap s.2.2.1 s.2.2.2.1, .blk s.2.2.2.2.1 #[s.2.2.2.2.2.1, s.2.2.2.2.2.2.1, s.2.2.2.2.2.2.2.1, i64 (s.2.2.2.2.2.2.2.2.2.1).ar, i64 (s.2.2.2.2.2.2.2.2.2.1).ac, .bool (s.2.2.2.2.2.2.2.2.2.1).off] 59, .own 31 1 s.2.2.2.2.2.1 24 ((s.2.2.2.2.2.2.2.2.1).map pgV), sepL ((s.2.2.2.2.2.2.2.2.1).map (pgH 5)), .own 3 1 s.2.2.2.2.2.2.1 24 ((s.2.2.2.2.2.2.2.2.2.1).worn.map i64), .own 43 2 s.2.2.2.2.2.2.2.1 (s.2.2.2.2.2.2.2.2.2.2).length ((s.2.2.2.2.2.2.2.2.2.2).flatMap cutC)]) (fun s => s.1 ≤ xs.length ∧ PlayI s.2.2.2.2.2.2.2.2.2.1 s.2.2.1 s.2.2.2.1 s.2.2.2.2.2.2.2.2.1 s.2.2.2.2.2.2.2.2.2.2 s.1) (fun s => xs.length - s.1) (0, b0, none, [], r0, bv0, wv0, .slice none 0 0, pgs0, Mem.new, []) (by (focus ((repeat (first | exact Pick.nil | (apply Pick.cons; exact rfl))); done))) (by (focus ((repeat (first | exact trivial | (refine ⟨rfl, ?_⟩))); done))) (fun _ h => h.keep (by (focus ((repeat (first | exact TakeL.nil | apply TakeL.cons | exact Take.head | apply Take.tail)); done)))) ⟨Nat.zero_le _, PlayI.start hP0⟩ (fun s hs => ?_)
  obtain ⟨i, b, o, mp, r, bv, wv, cv, pgs, m, cs⟩ := s
  simp only [List.cons_append, List.nil_append] at hs ⊢
  obtain ⟨hi, hI⟩ := hs
  have hm := hI.wf
  have hP := hI.pages
  have hIn := hI.le (Nat.le_succ i)
  by_cases hlt : (i : Int) < xs.length
  · have hxo := op_at hx (show i < xs.length by omega)
    repeat first
      | (apply WL.q; exact rfl; exact rfl; exact rfl; (first | (apply EvW.cmpT; exact rfl; exact rfl; exact rfl; omega) | (apply EvW.idxRow; exact rfl; exact rfl; exact UndC.eq; exact SzC.eq; assumption; omega; omega)))
      | refine WC.seq ?_ | refine WC.region ?_ | refine WL.nil ?_ | refine WE.next ?_ | refine WC.block ?_ | refine WC.skip ?_ | refine WC.condT rfl ?_
    (apply WL.q; exact rfl; exact rfl; exact rfl; (apply EvW.ldElem (xs := xs) (z := (default : Op)) (f := opC); exact rfl; exact AggC.eq; exact SzC.eq; exact rfl; exact fun _ => rfl; assumption; omega))
    rw [show ((i : Nat) : Int).toNat = i from rfl]
    try refine WL.wanted rfl rfl rfl ?_
    (apply WL.alloc; exact rfl; exact ZvC.eq; exact rfl; intro z)
    generalize xs.getD i default = x at hxo
    have hone := op_one hxo
    have hxp := hxo.parts
    have hxq := hxo.cuts
    have hcl := hI.few
    by_cases hk1 : x.k = 1
    · repeat first
        | (apply WL.q; exact rfl; exact rfl; exact rfl; (first | (apply EvW.assign; exact rfl) | (apply EvW.fieldAddr0; exact rfl; exact FldC.eq) | (apply EvW.load; exact rfl; exact ScalC.eq; (focus ((repeat (first | exact Take.head | apply Take.tail)); done)); exact rfl) | (apply EvW.cmpT; exact rfl; exact rfl; exact rfl; omega)))
        | refine WC.seq ?_ | refine WC.region ?_ | refine WL.nil ?_ | refine WE.next ?_ | refine WC.block ?_ | refine WC.condT rfl ?_ | (apply WL.store; exact rfl; exact rfl; (first | assumption | exact rfl); exact SzC.eq; (first | assumption | exact rfl); (focus ((repeat (first | apply UpdC.head | apply UpdC.tail | exact SetMany.nil | apply SetMany.cons | apply SetMany.succ)); done)))
      try refine WL.wanted rfl rfl rfl ?_
      (apply WL.buildSlice; exact rfl; exact UndC.eq; exact SzC.eq; exact ZvC.eq; exact rfl; exact rfl; exact rfl; ((focus ((repeat (first | exact Flat.nil | (apply Flat.one; (first | exact rfl | assumption)) | (apply Flat.cons; exact rfl; exact rfl))); done))); exact rfl; exact rfl; intro c1)
      refine WL.toOwn (bl := c1) 0 1 .head rfl ?_
      repeat first
        | (apply WL.q; exact rfl; exact rfl; exact rfl; (first | (apply EvW.fieldAddr0; exact rfl; exact FldC.eq) | (apply EvW.load; exact rfl; exact ScalC.eq; (focus ((repeat (first | exact Take.head | apply Take.tail)); done)); exact rfl)))
      have hpl := hxo.pl
      have hfl := hxo.fl
      try refine WL.wanted rfl rfl rfl ?_
      (apply WL.append; exact rfl; exact rfl; exact rfl; exact UndC.eq; exact SzC.eq; exact ByC.eq; exact ZvC.eq; exact rfl; (first | exact notInt_sl UndC.eq | exact notInt_st UndC.eq); exact rfl; (focus ((repeat (first | exact Take.head | apply Take.tail)); done)))
      · exact adds_row hxo.parts (by simp [Value.oneCell'])
      · (omega)
      intro a2
      skip
      try refine WL.wanted rfl rfl rfl ?_
      (apply WL.buildSlice; exact rfl; exact UndC.eq; exact SzC.eq; exact ZvC.eq; exact rfl; exact rfl; exact rfl; ((focus ((repeat (first | exact Flat.nil | (apply Flat.one; (first | exact rfl | assumption)) | (apply Flat.cons; exact rfl; exact rfl))); done))); exact rfl; exact rfl; intro c2)
      try refine WL.wanted rfl rfl rfl ?_
      (apply WL.append; exact rfl; exact rfl; exact rfl; exact UndC.eq; exact SzC.eq; exact ByC.eq; exact ZvC.eq; exact rfl; (first | exact notInt_sl UndC.eq | exact notInt_st UndC.eq); exact rfl; (focus ((repeat (first | exact Take.head | apply Take.tail)); done)))
      · exact adds_blk .head rfl rfl
      · (omega)
      intro a7
      refine WL.ownEq (cs' := x.ps.map str ++ [str spareB]) (len' := x.ps.length + 1) .head (by omega) (by simp [spareB]) ?_
      repeat first
        | (apply WL.q; exact rfl; exact rfl; exact rfl; (first | (apply EvW.assign; exact rfl)))
        | refine WC.seq ?_ | refine WL.nil ?_ | refine WE.next ?_
      obtain ⟨T, hT⟩ : ∃ T, x.ps.flatten = T := ⟨_, rfl⟩
      have hTl : T.length ≤ 1048576 := by rw [← hT]; exact hfl
      by_cases hbad : m.bad x.pg x.pos T = 0
      · obtain ⟨ct, hct⟩ : ∃ ct, cutAt m.ar cs = ct := ⟨_, rfl⟩
        obtain ⟨e, he⟩ : ∃ e, (cutF ct T.length).2 = e := ⟨_, rfl⟩
        obtain ⟨M2, hM⟩ : ∃ M2, (m.burnt x.pg x.pos T (cutF ct T.length).1).act ct = M2 := ⟨_, rfl⟩
        obtain ⟨pgs2, hg⟩ : ∃ pgs2, pgs.set x.pg.toNat ⟨(pgs.getD x.pg.toNat default).v, put (m.page x.pg) T x.pos.toNat (cutF ct T.length).1.toNat⟩ = pgs2 := ⟨_, rfl⟩
        have hc : mget m.ar mp = ct.map i64 := by rw [← hct]; exact hI.cuts.here
        have hpo := place_zero (bad_zero hbad).1
        have hI2 : PlayI M2 o (mdel m.ar mp) pgs2 cs (i + 1) := ⟨by rw [← hM]; exact burn_wf hm hbad, by rw [← hM, ← hg]; exact hP.burnt hpo.2.1 hpo.2.2.1 (cutF_bd ct T.length (by omega)).1, mdel_none hI.none', by rw [← hM]; exact hI.cuts.next, hcl⟩
        have hw2 : M2.worn = m.worn := by rw [← hM]; rfl
        repeat refine WC.seq ?_
        refine WC.keep (xs := [.own 9 1 a7 ((x).ps.length + 1) ((x).ps.map str ++ [str spareB]), .blk z #[i64 (x).k, i64 (x).pg, i64 (x).pos, i64 (x).n, (x).pv, (x).cv] 51, .blk b (Value.map (o) :: i64 (m).ar :: i64 (m).ac :: Value.bool (m).off :: ((m).pages.map str ++ (m).worn.map i64)).toArray 41, .omap o mp, .blk r #[bv, wv, cv, i64 (m).ar, i64 (m).ac, .bool (m).off] 59, .own 31 1 bv 24 ((pgs).map pgV), sepL ((pgs).map (pgH 5)), .own 3 1 wv 24 ((m).worn.map i64), .own 43 2 cv (cs).length ((cs).flatMap cutC)]) (by (focus ((repeat (first | exact TakeL.nil | apply TakeL.cons | exact Take.head | apply Take.tail)); done))) ?_
        apply WC.par _ (fun c : Ch => [.own 9 1 a7 ((x).ps.length + 1) ((x).ps.map str ++ [str spareB]), .blk z #[i64 (x).k, i64 (x).pg, i64 (x).pos, i64 (x).n, (x).pv, (x).cv] 51, .blk b (Value.map (o) :: i64 (m).ar :: i64 (m).ac :: Value.bool (m).off :: ((m).pages.map str ++ (m).worn.map i64)).toArray 41, .blk b (Value.map (o) :: i64 (M2).ar :: i64 (M2).ac :: Value.bool (M2).off :: ((M2).pages.map str ++ (M2).worn.map i64)).toArray 41, .omap o mp, .omap o (mdel m.ar mp), .blk r #[bv, wv, cv, i64 (m).ar, i64 (m).ac, .bool (m).off] 59, .own 31 1 bv 24 ((pgs).map pgV), sepL ((pgs).map (pgH 5)), .own 3 1 wv 24 ((m).worn.map i64), .own 43 2 cv (cs).length ((cs).flatMap cutC)]) [none, none, none, some 10, none, some 10, none, none, none, none, none] [none, none, some 10, none, some 10, none, none, none, none, none, none] [] Try.mixed
        · (focus ((repeat (first | exact Restr.nil | (apply Restr.keep; exact rfl; exact rfl) | (apply Restr.drop; exact rfl))); done))
        · intro c; exact (by (focus ((repeat (first | exact SelT.nil | apply SelT.yes | apply SelT.no)); done)))
        · exact rfl
        · decide +kernel
        · decide +kernel
        · intro c
          (apply Par.quiet _ [true, true, true, false, true, false, true, true, true, true, true]; exact rfl; decide +kernel; exact rfl; intro R; refine ⟨_, (by (focus ((repeat (first | exact SelT.nil | apply SelT.yes | apply SelT.no)); done))), ?_⟩;
               (first | (apply EvW.move; exact rfl)))
          (apply Par.quiet _ [true, true, true, false, true, false, true, true, true, true, true]; exact rfl; decide +kernel; exact rfl; intro R; refine ⟨_, (by (focus ((repeat (first | exact SelT.nil | apply SelT.yes | apply SelT.no)); done))), ?_⟩;
               (first | (apply EvW.fieldAddr0; exact rfl; exact FldC.eq)))
          (apply Par.quiet _ [true, true, true, false, true, false, true, true, true, true, true]; exact rfl; decide +kernel; exact rfl; intro R; refine ⟨_, (by (focus ((repeat (first | exact SelT.nil | apply SelT.yes | apply SelT.no)); done))), ?_⟩;
               (first | (apply EvW.load; exact rfl; exact ScalC.eq; (focus ((repeat (first | exact Take.head | apply Take.tail)); done)); exact rfl)))
          (apply Par.quiet _ [true, true, true, false, true, false, true, true, true, true, true]; exact rfl; decide +kernel; exact rfl; intro R; refine ⟨_, (by (focus ((repeat (first | exact SelT.nil | apply SelT.yes | apply SelT.no)); done))), ?_⟩;
               (first | (apply EvW.fieldAddr0; exact rfl; exact FldC.eq)))
          (apply Par.quiet _ [true, true, true, false, true, false, true, true, true, true, true]; exact rfl; decide +kernel; exact rfl; intro R; refine ⟨_, (by (focus ((repeat (first | exact SelT.nil | apply SelT.yes | apply SelT.no)); done))), ?_⟩;
               (first | (apply EvW.load; exact rfl; exact ScalC.eq; (focus ((repeat (first | exact Take.head | apply Take.tail)); done)); exact rfl)))
          (apply Par.quiet _ [true, true, true, false, true, false, true, true, true, true, true]; exact rfl; decide +kernel; exact rfl; intro R; refine ⟨_, (by (focus ((repeat (first | exact SelT.nil | apply SelT.yes | apply SelT.no)); done))), ?_⟩;
               (first | (apply EvW.move; exact rfl)))
          (apply Par.quiet _ [true, true, true, false, true, false, true, true, true, true, true]; exact rfl; decide +kernel; exact rfl; intro R; refine ⟨_, (by (focus ((repeat (first | exact SelT.nil | apply SelT.yes | apply SelT.no)); done))), ?_⟩;
               (first | (apply EvW.fieldAddr0; exact rfl; exact FldC.eq)))
          (apply Par.quiet _ [true, true, true, false, true, false, true, true, true, true, true]; exact rfl; decide +kernel; exact rfl; intro R; refine ⟨_, (by (focus ((repeat (first | exact SelT.nil | apply SelT.yes | apply SelT.no)); done))), ?_⟩;
               (first | (apply EvW.load; exact rfl; exact ScalC.eq; (focus ((repeat (first | exact Take.head | apply Take.tail)); done)); exact rfl)))
          (apply Par.quiet _ [true, true, true, false, true, false, true, true, true, true, true]; exact rfl; decide +kernel; exact rfl; intro R; refine ⟨_, (by (focus ((repeat (first | exact SelT.nil | apply SelT.yes | apply SelT.no)); done))), ?_⟩;
               (first | (apply EvW.lenRow; exact rfl; exact UndC.eq; assumption)))
          (apply Par.quiet _ [true, true, true, false, true, false, true, true, true, true, true]; exact rfl; decide +kernel; exact rfl; intro R; refine ⟨_, (by (focus ((repeat (first | exact SelT.nil | apply SelT.yes | apply SelT.no)); done))), ?_⟩;
               (first | (apply EvW.sliceOwn_hi; exact rfl; exact UndC.eq; exact SzC.eq; (focus ((repeat (first | exact Take.head | apply Take.tail)); done)); exact rfl; omega; omega)))
          apply Par.eff _ [false, false, true, false, true, false, false, false, false, false, false] [false, false, false, true, false, true, false, false, false, false, false] [true, true, false, false, false, false, true, true, true, true, true]
          · exact rfl
          · exact rfl
          · decide +kernel
          · intro R
            refine ⟨_, _, _, (by (focus ((repeat (first | exact SelT.nil | apply SelT.yes | apply SelT.no)); done))), (by (focus ((repeat (first | exact SelT.nil | apply SelT.yes | apply SelT.no)); done))), (by (focus ((repeat (first | exact SelT.nil | apply SelT.yes | apply SelT.no)); done))), ?_⟩
            apply EffW.callA ([.blk b (Value.map (o) :: i64 (m).ar :: i64 (m).ac :: Value.bool (m).off :: ((m).pages.map str ++ (m).worn.map i64)).toArray 41, .omap o mp])
            · exact rfl
            · exact fun w => Try.call11 _ w
            · (focus ((repeat (first | exact TakeL.nil | apply TakeL.cons | exact Take.head | apply Take.tail)); done))
            · exact fun w1 S1 hS1 hs1 ho1 => burn_to b o m i mp x.pg x.pos _ x.ps T ct e M2 w1 S1 hS1 (own_front (e := 9) (ho1 _ _ (by (focus ((repeat (first | exact Take.head | apply Take.tail)); done)))) (by simp) (by omega)) (by omega) hT hbad hm (by omega) hI.none' hc he hM
            · exact fun _ _ h => h
            · exact fun _ h => TakeT.st (by (focus ((repeat (first | exact TakeT.tail | apply TakeT.cons | exact Take.head | apply Take.tail | apply TakeT.drop)); done))) h
          (apply Par.quiet _ [true, true, false, true, false, true, true, true, true, true, true]; exact rfl; decide +kernel; exact rfl; intro R; refine ⟨_, (by (focus ((repeat (first | exact SelT.nil | apply SelT.yes | apply SelT.no)); done))), ?_⟩;
               (first | (apply EvW.assign; exact rfl)))
          exact Par.nil
        · repeat (first | exact AllN.nil | (apply AllN.cons; (intro c x; (repeat (first | exact IndA.nil | (apply IndA.skip; decide +kernel) | apply IndA.same))))) 
        · repeat (first | exact AllN.nil | (apply AllN.cons; (intro c x; (repeat (first | exact IndT.nil | (apply IndT.skip; decide +kernel) | apply IndT.same))))) 
        · exact fun _ => rfl
        intro c
        refine ⟨_, (by (focus ((repeat (first | exact SelT.nil | apply SelT.yes | apply SelT.no)); done))), ?_⟩
        apply WE.writ
        · (focus ((repeat (first | exact Writ.nil | apply Writ.some | apply Writ.none)); done))
        repeat first
          | refine WC.seq ?_ | refine WE.next ?_
        repeat refine WC.seq ?_
        refine WC.keep (xs := [.own 9 1 a7 ((x).ps.length + 1) ((x).ps.map str ++ [str spareB]), .blk z #[i64 (x).k, i64 (x).pg, i64 (x).pos, i64 (x).n, (x).pv, (x).cv] 51, .blk b (Value.map (o) :: i64 (M2).ar :: i64 (M2).ac :: Value.bool (M2).off :: ((M2).pages.map str ++ (M2).worn.map i64)).toArray 41, .omap o (mdel m.ar mp), .blk r #[bv, wv, cv, i64 (m).ar, i64 (m).ac, .bool (m).off] 59, .own 31 1 bv 24 ((pgs).map pgV), sepL ((pgs).map (pgH 5)), .own 3 1 wv 24 ((m).worn.map i64), .own 43 2 cv (cs).length ((cs).flatMap cutC)]) (by (focus ((repeat (first | exact TakeL.nil | apply TakeL.cons | exact Take.head | apply Take.tail)); done))) ?_
        apply WC.par _ (fun c : Ch => [.own 9 1 a7 ((x).ps.length + 1) ((x).ps.map str ++ [str spareB]), .blk z #[i64 (x).k, i64 (x).pg, i64 (x).pos, i64 (x).n, (x).pv, (x).cv] 51, .blk b (Value.map (o) :: i64 (M2).ar :: i64 (M2).ac :: Value.bool (M2).off :: ((M2).pages.map str ++ (M2).worn.map i64)).toArray 41, .omap o (mdel m.ar mp), .blk r #[bv, wv, cv, i64 (m).ar, i64 (m).ac, .bool (m).off] 59, .blk r #[bv, wv, cv, i64 (M2).ar, i64 (M2).ac, .bool (M2).off] 59, .own 31 1 bv 24 ((pgs).map pgV), .own 31 1 bv 24 ((pgs2).map pgV), sepL ((pgs).map (pgH 5)), sepL ((pgs2).map (pgH 5)), .own 3 1 wv 24 ((m).worn.map i64), .own 43 2 cv (cs).length ((cs).flatMap cutC), .own 43 2 cv (cs).length ((cs).flatMap cutC)]) [none, none, none, none, none, some 9, none, some 9, none, some 9, none, none, some 9] [none, none, none, none, some 9, none, some 9, none, some 9, none, none, some 9, none] [] Try.mixed
        · (focus ((repeat (first | exact Restr.nil | (apply Restr.keep; exact rfl; exact rfl) | (apply Restr.drop; exact rfl))); done))
        · intro c; exact (by (focus ((repeat (first | exact SelT.nil | apply SelT.yes | apply SelT.no)); done)))
        · exact rfl
        · decide +kernel
        · decide +kernel
        · intro c
          (apply Par.quiet _ [true, true, true, true, false, false, false, false, false, false, true, false, false]; exact rfl; decide +kernel; exact rfl; intro R; refine ⟨_, (by (focus ((repeat (first | exact SelT.nil | apply SelT.yes | apply SelT.no)); done))), ?_⟩;
               (first | (apply EvW.move; exact rfl)))
          (apply Par.quiet _ [true, true, true, true, true, false, true, false, true, false, true, true, false]; exact rfl; decide +kernel; exact rfl; intro R; refine ⟨_, (by (focus ((repeat (first | exact SelT.nil | apply SelT.yes | apply SelT.no)); done))), ?_⟩;
               (first | (apply EvW.move; exact rfl)))
          (apply Par.quiet _ [true, true, true, true, true, false, true, false, true, false, true, true, false]; exact rfl; decide +kernel; exact rfl; intro R; refine ⟨_, (by (focus ((repeat (first | exact SelT.nil | apply SelT.yes | apply SelT.no)); done))), ?_⟩;
               (first | (apply EvW.fieldAddr0; exact rfl; exact FldC.eq)))
          (apply Par.quiet _ [true, true, true, true, true, false, true, false, true, false, true, true, false]; exact rfl; decide +kernel; exact rfl; intro R; refine ⟨_, (by (focus ((repeat (first | exact SelT.nil | apply SelT.yes | apply SelT.no)); done))), ?_⟩;
               (first | (apply EvW.load; exact rfl; exact ScalC.eq; (focus ((repeat (first | exact Take.head | apply Take.tail)); done)); exact rfl)))
          (apply Par.quiet _ [true, true, true, true, true, false, true, false, true, false, true, true, false]; exact rfl; decide +kernel; exact rfl; intro R; refine ⟨_, (by (focus ((repeat (first | exact SelT.nil | apply SelT.yes | apply SelT.no)); done))), ?_⟩;
               (first | (apply EvW.fieldAddr0; exact rfl; exact FldC.eq)))
          (apply Par.quiet _ [true, true, true, true, true, false, true, false, true, false, true, true, false]; exact rfl; decide +kernel; exact rfl; intro R; refine ⟨_, (by (focus ((repeat (first | exact SelT.nil | apply SelT.yes | apply SelT.no)); done))), ?_⟩;
               (first | (apply EvW.load; exact rfl; exact ScalC.eq; (focus ((repeat (first | exact Take.head | apply Take.tail)); done)); exact rfl)))
          (apply Par.quiet _ [true, true, true, true, true, false, true, false, true, false, true, true, false]; exact rfl; decide +kernel; exact rfl; intro R; refine ⟨_, (by (focus ((repeat (first | exact SelT.nil | apply SelT.yes | apply SelT.no)); done))), ?_⟩;
               (first | (apply EvW.fieldAddr0; exact rfl; exact FldC.eq)))
          (apply Par.quiet _ [true, true, true, true, true, false, true, false, true, false, true, true, false]; exact rfl; decide +kernel; exact rfl; intro R; refine ⟨_, (by (focus ((repeat (first | exact SelT.nil | apply SelT.yes | apply SelT.no)); done))), ?_⟩;
               (first | (apply EvW.load; exact rfl; exact ScalC.eq; (focus ((repeat (first | exact Take.head | apply Take.tail)); done)); exact rfl)))
          apply Par.quiet _ [true, true, true, true, true, false, true, false, true, false, true, true, false]
          · exact rfl
          · decide +kernel
          · exact rfl
          · intro R
            refine ⟨_, (by (focus ((repeat (first | exact SelT.nil | apply SelT.yes | apply SelT.no)); done))), ?_⟩
            apply EvW.callK ([])
            · exact rfl
            · exact fun w => Try.call20 _ w
            · (focus ((repeat (first | exact TakeL.nil | apply TakeL.cons | exact Take.head | apply Take.tail)); done))
            · exact fun w1 S1 hS1 hs1 ho1 => (by have h := all_spec x.pv x.ps w1 S1 hS1 (hs1 _ hxo.parts) hfl hpl; rw [hT] at h; exact h)
            · exact fun _ _ h => h
          apply Par.eff _ [false, false, false, false, true, false, true, false, true, false, false, true, false] [false, false, false, false, false, true, false, true, false, true, false, false, true] [true, true, true, true, false, false, false, false, false, false, true, false, false]
          · exact rfl
          · exact rfl
          · decide +kernel
          · intro R
            refine ⟨_, _, _, (by (focus ((repeat (first | exact SelT.nil | apply SelT.yes | apply SelT.no)); done))), (by (focus ((repeat (first | exact SelT.nil | apply SelT.yes | apply SelT.no)); done))), (by (focus ((repeat (first | exact SelT.nil | apply SelT.yes | apply SelT.no)); done))), ?_⟩
            apply EffW.callA ([.blk r #[bv, wv, cv, i64 (m).ar, i64 (m).ac, .bool (m).off] 59, .own 31 1 bv 24 ((pgs).map pgV), sepL ((pgs).map (pgH 5)), .own 43 2 cv (cs).length ((cs).flatMap cutC)])
            · exact rfl
            · exact fun w => Try.call19 _ w
            · (focus ((repeat (first | exact TakeL.nil | apply TakeL.cons | exact Take.head | apply Take.tail)); done))
            · exact fun w1 S1 hS1 hs1 ho1 => rburn_to r bv wv cv pgs m i x.pg x.pos T cs pgs2 ct e M2 w1 S1 hS1 hm hP (by omega) (by omega) hbad hct he hM hg
            · exact fun _ _ h => h
            · exact fun _ h => TakeT.st (by (focus ((repeat (first | exact TakeT.tail | apply TakeT.cons | exact Take.head | apply Take.tail | apply TakeT.drop)); done))) h
          (apply Par.quiet _ [true, true, true, true, false, true, false, true, false, true, true, false, true]; exact rfl; decide +kernel; exact rfl; intro R; refine ⟨_, (by (focus ((repeat (first | exact SelT.nil | apply SelT.yes | apply SelT.no)); done))), ?_⟩;
               (first | (apply EvW.cmpF; exact rfl; exact rfl; exact rfl; omega)))
          (apply Par.quiet _ [true, true, true, true, false, true, false, true, false, true, true, false, true]; exact rfl; decide +kernel; exact rfl; intro R; refine ⟨_, (by (focus ((repeat (first | exact SelT.nil | apply SelT.yes | apply SelT.no)); done))), ?_⟩;
               (first | (apply EvW.move; exact rfl)))
          first
            | (apply Par.skip; exact rfl; decide +kernel; exact rfl)
            | (apply Par.quiet _ [true, true, true, true, false, true, false, true, false, true, true, false, true]; exact rfl; decide +kernel; exact rfl; intro R; refine ⟨_, (by (focus ((repeat (first | exact SelT.nil | apply SelT.yes | apply SelT.no)); done))), ?_⟩;
               (first | (apply EvW.move; exact rfl)))
          first
            | (apply Par.skip; exact rfl; decide +kernel; exact rfl)
            | (apply Par.quiet _ [true, true, true, true, false, true, false, true, false, true, true, false, true]; exact rfl; decide +kernel; exact rfl; intro R; refine ⟨_, (by (focus ((repeat (first | exact SelT.nil | apply SelT.yes | apply SelT.no)); done))), ?_⟩;
               (first | (apply EvW.fieldAddr0; exact rfl; exact FldC.eq)))
          first
            | (apply Par.skip; exact rfl; decide +kernel; exact rfl)
            | (apply Par.quiet _ [true, true, true, true, false, true, false, true, false, true, true, false, true]; exact rfl; decide +kernel; exact rfl; intro R; refine ⟨_, (by (focus ((repeat (first | exact SelT.nil | apply SelT.yes | apply SelT.no)); done))), ?_⟩;
               (first | (apply EvW.load; exact rfl; exact ScalC.eq; (focus ((repeat (first | exact Take.head | apply Take.tail)); done)); exact rfl)))
          first
            | (apply Par.skip; exact rfl; decide +kernel; exact rfl)
            | (apply Par.quiet _ [true, true, true, true, false, true, false, true, false, true, true, false, true]; exact rfl; decide +kernel; exact rfl; intro R; refine ⟨_, (by (focus ((repeat (first | exact SelT.nil | apply SelT.yes | apply SelT.no)); done))), ?_⟩;
               (first | (apply EvW.lenRow; exact rfl; exact UndC.eq; assumption)))
          first
            | (apply Par.skip; exact rfl; decide +kernel; exact rfl)
            | (apply Par.quiet _ [true, true, true, true, false, true, false, true, false, true, true, false, true]; exact rfl; decide +kernel; exact rfl; intro R; refine ⟨_, (by (focus ((repeat (first | exact SelT.nil | apply SelT.yes | apply SelT.no)); done))), ?_⟩;
               (first | (apply EvW.idxOwn; exact rfl; exact rfl; exact UndC.eq; exact SzC.eq; (focus ((repeat (first | exact Take.head | apply Take.tail)); done)); omega; omega)))
          apply Par.quiet _ [true, true, true, true, false, true, false, true, false, true, true, false, true]
          · exact rfl
          · decide +kernel
          · exact rfl
          · intro R
            refine ⟨_, (by (focus ((repeat (first | exact SelT.nil | apply SelT.yes | apply SelT.no)); done))), ?_⟩
            (apply EvW.ldOwn (i := x.ps.length) (off := 0) (q := str spareB); exact rfl; exact ScalC.eq; (focus ((repeat (first | exact Take.head | apply Take.tail)); done)); simp)
          first
            | (apply Par.skip; exact rfl; decide +kernel; exact rfl)
            | (apply Par.quiet _ [true, true, true, true, false, true, false, true, false, true, true, false, true]; exact rfl; decide +kernel; exact rfl; intro R; refine ⟨_, (by (focus ((repeat (first | exact SelT.nil | apply SelT.yes | apply SelT.no)); done))), ?_⟩;
               (first | (apply EvW.sneS; exact rfl; exact rfl)))
          (apply Par.quiet _ [true, true, true, true, false, true, false, true, false, true, true, false, true]; exact rfl; decide +kernel; exact rfl; intro R; refine ⟨_, (by (focus ((repeat (first | exact SelT.nil | apply SelT.yes | apply SelT.no)); done))), ?_⟩;
               (first | (apply EvW.pickF; exact rfl; exact rfl)))
          (apply Par.quiet _ [true, true, true, true, false, true, false, true, false, true, true, false, true]; exact rfl; decide +kernel; exact rfl; intro R; refine ⟨_, (by (focus ((repeat (first | exact SelT.nil | apply SelT.yes | apply SelT.no)); done))), ?_⟩;
               (first | (apply EvW.move; exact rfl)))
          first
            | (apply Par.skip; exact rfl; decide +kernel; exact rfl)
            | (apply Par.quiet _ [true, true, true, true, false, true, false, true, false, true, true, false, true]; exact rfl; decide +kernel; exact rfl; intro R; refine ⟨_, (by (focus ((repeat (first | exact SelT.nil | apply SelT.yes | apply SelT.no)); done))), ?_⟩;
               (first | (apply EvW.move; exact rfl)))
          first
            | (apply Par.skip; exact rfl; decide +kernel; exact rfl)
            | (apply Par.quiet _ [true, true, true, true, false, true, false, true, false, true, true, false, true]; exact rfl; decide +kernel; exact rfl; intro R; refine ⟨_, (by (focus ((repeat (first | exact SelT.nil | apply SelT.yes | apply SelT.no)); done))), ?_⟩;
               (first | (apply EvW.fieldAddr0; exact rfl; exact FldC.eq)))
          first
            | (apply Par.skip; exact rfl; decide +kernel; exact rfl)
            | (apply Par.quiet _ [true, true, true, true, false, true, false, true, false, true, true, false, true]; exact rfl; decide +kernel; exact rfl; intro R; refine ⟨_, (by (focus ((repeat (first | exact SelT.nil | apply SelT.yes | apply SelT.no)); done))), ?_⟩;
               (first | (apply EvW.load; exact rfl; exact ScalC.eq; (focus ((repeat (first | exact Take.head | apply Take.tail)); done)); exact rfl)))
          first
            | (apply Par.skip; exact rfl; decide +kernel; exact rfl)
            | (apply Par.quiet _ [true, true, true, true, false, true, false, true, false, true, true, false, true]; exact rfl; decide +kernel; exact rfl; intro R; refine ⟨_, (by (focus ((repeat (first | exact SelT.nil | apply SelT.yes | apply SelT.no)); done))), ?_⟩;
               (first | (apply EvW.lenRow; exact rfl; exact UndC.eq; assumption)))
          first
            | (apply Par.skip; exact rfl; decide +kernel; exact rfl)
            | (apply Par.quiet _ [true, true, true, true, false, true, false, true, false, true, true, false, true]; exact rfl; decide +kernel; exact rfl; intro R; refine ⟨_, (by (focus ((repeat (first | exact SelT.nil | apply SelT.yes | apply SelT.no)); done))), ?_⟩;
               (first | (apply EvW.sliceOwn_hi; exact rfl; exact UndC.eq; exact SzC.eq; (focus ((repeat (first | exact Take.head | apply Take.tail)); done)); exact rfl; omega; omega)))
          apply Par.quiet _ [true, true, true, true, false, true, false, true, false, true, true, false, true]
          · exact rfl
          · decide +kernel
          · exact rfl
          · intro R
            refine ⟨_, (by (focus ((repeat (first | exact SelT.nil | apply SelT.yes | apply SelT.no)); done))), ?_⟩
            apply EvW.callK ([])
            · exact rfl
            · exact fun w => Try.call20 _ w
            · (focus ((repeat (first | exact TakeL.nil | apply TakeL.cons | exact Take.head | apply Take.tail)); done))
            · exact fun w1 S1 hS1 hs1 ho1 => (by have h := all_spec (subSl 1 0 ((x.ps.length : Nat) : Int).toNat a7) x.ps w1 S1 hS1 (own_front (e := 9) (ho1 _ _ (by (focus ((repeat (first | exact Take.head | apply Take.tail)); done)))) (by simp) (by omega)) hfl hpl; rw [hT] at h; exact h)
            · exact fun _ _ h => h
          first
            | (apply Par.skip; exact rfl; decide +kernel; exact rfl)
            | (apply Par.quiet _ [true, true, true, true, false, true, false, true, false, true, true, false, true]; exact rfl; decide +kernel; exact rfl; intro R; refine ⟨_, (by (focus ((repeat (first | exact SelT.nil | apply SelT.yes | apply SelT.no)); done))), ?_⟩;
               (first | (apply EvW.fieldAddr0; exact rfl; exact FldC.eq)))
          first
            | (apply Par.skip; exact rfl; decide +kernel; exact rfl)
            | (apply Par.quiet _ [true, true, true, true, false, true, false, true, false, true, true, false, true]; exact rfl; decide +kernel; exact rfl; intro R; refine ⟨_, (by (focus ((repeat (first | exact SelT.nil | apply SelT.yes | apply SelT.no)); done))), ?_⟩;
               (first | (apply EvW.load; exact rfl; exact ScalC.eq; (focus ((repeat (first | exact Take.head | apply Take.tail)); done)); exact rfl)))
          apply Par.quiet _ [true, true, true, true, false, true, false, true, false, true, true, false, true]
          · exact rfl
          · decide +kernel
          · exact rfl
          · intro R
            refine ⟨_, (by (focus ((repeat (first | exact SelT.nil | apply SelT.yes | apply SelT.no)); done))), ?_⟩
            apply EvW.callK ([])
            · exact rfl
            · exact fun w => Try.call20 _ w
            · (focus ((repeat (first | exact TakeL.nil | apply TakeL.cons | exact Take.head | apply Take.tail)); done))
            · exact fun w1 S1 hS1 hs1 ho1 => (by have h := all_spec x.pv x.ps w1 S1 hS1 (hs1 _ hxo.parts) hfl hpl; rw [hT] at h; exact h)
            · exact fun _ _ h => h
          first
            | (apply Par.skip; exact rfl; decide +kernel; exact rfl)
            | (apply Par.quiet _ [true, true, true, true, false, true, false, true, false, true, true, false, true]; exact rfl; decide +kernel; exact rfl; intro R; refine ⟨_, (by (focus ((repeat (first | exact SelT.nil | apply SelT.yes | apply SelT.no)); done))), ?_⟩;
               (first | (apply EvW.sneS; exact rfl; exact rfl)))
          (apply Par.quiet _ [true, true, true, true, false, true, false, true, false, true, true, false, true]; exact rfl; decide +kernel; exact rfl; intro R; refine ⟨_, (by (focus ((repeat (first | exact SelT.nil | apply SelT.yes | apply SelT.no)); done))), ?_⟩;
               (first | (apply EvW.pickF; exact rfl; exact rfl)))
          exact Par.nil
        · repeat (first | exact AllN.nil | (apply AllN.cons; (intro c x; (repeat (first | exact IndA.nil | (apply IndA.skip; decide +kernel) | apply IndA.same))))) 
        · repeat (first | exact AllN.nil | (apply AllN.cons; (intro c x; (repeat (first | exact IndT.nil | (apply IndT.skip; decide +kernel) | apply IndT.same))))) 
        · exact fun _ => rfl
        intro c
        refine ⟨_, (by (focus ((repeat (first | exact SelT.nil | apply SelT.yes | apply SelT.no)); done))), ?_⟩
        apply WE.writ
        · (focus ((repeat (first | exact Writ.nil | apply Writ.some | apply Writ.none)); done))
        rw [← hw2]
        repeat first
          | (apply WL.q; exact rfl; exact rfl; exact rfl; (first | (apply EvW.move; exact rfl) | (apply EvW.fieldAddr0; exact rfl; exact FldC.eq) | (apply EvW.load; exact rfl; exact ScalC.eq; (focus ((repeat (first | exact Take.head | apply Take.tail)); done)); exact rfl)))
          | refine WC.seq ?_ | refine WC.region ?_ | refine WE.next ?_ | refine WC.skip ?_ | refine WE.out ?_ | refine WC.condF rfl ?_
        try refine WL.wanted rfl rfl rfl ?_
        apply WL.callA ([.blk b (Value.map (o) :: i64 (M2).ar :: i64 (M2).ac :: Value.bool (M2).off :: ((M2).pages.map str ++ (M2).worn.map i64)).toArray 41, .blk r #[bv, wv, cv, i64 (M2).ar, i64 (M2).ac, .bool (M2).off] 59, .own 31 1 bv 24 ((pgs2).map pgV), sepL ((pgs2).map (pgH 5)), .own 3 1 wv 24 ((M2).worn.map i64)])
        · exact rfl
        · exact rfl
        · exact fun w => Try.call25 _ w
        · (focus ((repeat (first | exact TakeL.nil | apply TakeL.cons | exact Take.head | apply Take.tail)); done))
        · exact fun w1 S1 hS1 hs1 ho1 => told_spec b (o) r bv wv cv pgs2 (M2) (i + 1) _ x.pg w1 S1 hS1 hI2.wf hI2.pages rfl
        rintro _ _ ⟨rfl, rfl⟩
        first | refine WL.app4 ?_ | refine WL.app3 ?_ | refine WL.app2 ?_ | refine WL.app1 ?_ | refine WL.app0 ?_ | skip
        repeat first
          | (apply WL.q; exact rfl; exact rfl; exact rfl; (first | (apply EvW.move; exact rfl) | (apply EvW.arN; exact rfl; exact rfl; exact rfl; refine i64_in ?_ ?_ <;> omega) | (apply EvW.notT; exact rfl)))
          | refine WC.region ?_ | refine WL.nil ?_ | refine WE.next ?_ | refine WC.skip ?_ | refine WE.out ?_ | refine WC.condF rfl ?_
        exact WE.again (s := (i, b, o, mp, r, bv, wv, cv, pgs, m, cs)) ((i + 1, b, o, mdel m.ar mp, r, bv, wv, cv, pgs2, M2, cs)) ⟨by simp only []; omega, hI2⟩ (by (focus ((repeat (first | exact trivial | (refine ⟨rfl, ?_⟩))); done))) (fun _ h => (by (try simp only []); exact h.keep (by (focus ((repeat (first | exact TakeL.nil | apply TakeL.cons | exact Take.head | apply Take.tail)); done))))) (by (try simp only []); omega)
      · obtain ⟨e, he⟩ : ∃ e, m.bad x.pg x.pos T = e := ⟨_, rfl⟩
        have hI2 := hIn
        repeat refine WC.seq ?_
        refine WC.keep (xs := [.own 9 1 a7 ((x).ps.length + 1) ((x).ps.map str ++ [str spareB]), .blk z #[i64 (x).k, i64 (x).pg, i64 (x).pos, i64 (x).n, (x).pv, (x).cv] 51, .blk b (Value.map (o) :: i64 (m).ar :: i64 (m).ac :: Value.bool (m).off :: ((m).pages.map str ++ (m).worn.map i64)).toArray 41, .omap o mp, .blk r #[bv, wv, cv, i64 (m).ar, i64 (m).ac, .bool (m).off] 59, .own 31 1 bv 24 ((pgs).map pgV), sepL ((pgs).map (pgH 5)), .own 3 1 wv 24 ((m).worn.map i64), .own 43 2 cv (cs).length ((cs).flatMap cutC)]) (by (focus ((repeat (first | exact TakeL.nil | apply TakeL.cons | exact Take.head | apply Take.tail)); done))) ?_
        apply WC.par _ (fun c : Ch => [.own 9 1 a7 ((x).ps.length + 1) ((x).ps.map str ++ [str spareB]), .blk z #[i64 (x).k, i64 (x).pg, i64 (x).pos, i64 (x).n, (x).pv, (x).cv] 51, .blk b (Value.map (o) :: i64 (m).ar :: i64 (m).ac :: Value.bool (m).off :: ((m).pages.map str ++ (m).worn.map i64)).toArray 41, .blk b (Value.map (o) :: i64 (m).ar :: i64 (m).ac :: Value.bool (m).off :: ((m).pages.map str ++ (m).worn.map i64)).toArray 41, .omap o mp, .blk r #[bv, wv, cv, i64 (m).ar, i64 (m).ac, .bool (m).off] 59, .own 31 1 bv 24 ((pgs).map pgV), sepL ((pgs).map (pgH 5)), .own 3 1 wv 24 ((m).worn.map i64), .own 43 2 cv (cs).length ((cs).flatMap cutC)]) [none, none, none, some 10, none, none, none, none, none, none] [none, none, some 10, none, none, none, none, none, none, none] [] Try.mixed
        · (focus ((repeat (first | exact Restr.nil | (apply Restr.keep; exact rfl; exact rfl) | (apply Restr.drop; exact rfl))); done))
        · intro c; exact (by (focus ((repeat (first | exact SelT.nil | apply SelT.yes | apply SelT.no)); done)))
        · exact rfl
        · decide +kernel
        · decide +kernel
        · intro c
          (apply Par.quiet _ [true, true, true, false, true, true, true, true, true, true]; exact rfl; decide +kernel; exact rfl; intro R; refine ⟨_, (by (focus ((repeat (first | exact SelT.nil | apply SelT.yes | apply SelT.no)); done))), ?_⟩;
               (first | (apply EvW.move; exact rfl)))
          (apply Par.quiet _ [true, true, true, false, true, true, true, true, true, true]; exact rfl; decide +kernel; exact rfl; intro R; refine ⟨_, (by (focus ((repeat (first | exact SelT.nil | apply SelT.yes | apply SelT.no)); done))), ?_⟩;
               (first | (apply EvW.fieldAddr0; exact rfl; exact FldC.eq)))
          (apply Par.quiet _ [true, true, true, false, true, true, true, true, true, true]; exact rfl; decide +kernel; exact rfl; intro R; refine ⟨_, (by (focus ((repeat (first | exact SelT.nil | apply SelT.yes | apply SelT.no)); done))), ?_⟩;
               (first | (apply EvW.load; exact rfl; exact ScalC.eq; (focus ((repeat (first | exact Take.head | apply Take.tail)); done)); exact rfl)))
          (apply Par.quiet _ [true, true, true, false, true, true, true, true, true, true]; exact rfl; decide +kernel; exact rfl; intro R; refine ⟨_, (by (focus ((repeat (first | exact SelT.nil | apply SelT.yes | apply SelT.no)); done))), ?_⟩;
               (first | (apply EvW.fieldAddr0; exact rfl; exact FldC.eq)))
          (apply Par.quiet _ [true, true, true, false, true, true, true, true, true, true]; exact rfl; decide +kernel; exact rfl; intro R; refine ⟨_, (by (focus ((repeat (first | exact SelT.nil | apply SelT.yes | apply SelT.no)); done))), ?_⟩;
               (first | (apply EvW.load; exact rfl; exact ScalC.eq; (focus ((repeat (first | exact Take.head | apply Take.tail)); done)); exact rfl)))
          (apply Par.quiet _ [true, true, true, false, true, true, true, true, true, true]; exact rfl; decide +kernel; exact rfl; intro R; refine ⟨_, (by (focus ((repeat (first | exact SelT.nil | apply SelT.yes | apply SelT.no)); done))), ?_⟩;
               (first | (apply EvW.move; exact rfl)))
          (apply Par.quiet _ [true, true, true, false, true, true, true, true, true, true]; exact rfl; decide +kernel; exact rfl; intro R; refine ⟨_, (by (focus ((repeat (first | exact SelT.nil | apply SelT.yes | apply SelT.no)); done))), ?_⟩;
               (first | (apply EvW.fieldAddr0; exact rfl; exact FldC.eq)))
          (apply Par.quiet _ [true, true, true, false, true, true, true, true, true, true]; exact rfl; decide +kernel; exact rfl; intro R; refine ⟨_, (by (focus ((repeat (first | exact SelT.nil | apply SelT.yes | apply SelT.no)); done))), ?_⟩;
               (first | (apply EvW.load; exact rfl; exact ScalC.eq; (focus ((repeat (first | exact Take.head | apply Take.tail)); done)); exact rfl)))
          (apply Par.quiet _ [true, true, true, false, true, true, true, true, true, true]; exact rfl; decide +kernel; exact rfl; intro R; refine ⟨_, (by (focus ((repeat (first | exact SelT.nil | apply SelT.yes | apply SelT.no)); done))), ?_⟩;
               (first | (apply EvW.lenRow; exact rfl; exact UndC.eq; assumption)))
          (apply Par.quiet _ [true, true, true, false, true, true, true, true, true, true]; exact rfl; decide +kernel; exact rfl; intro R; refine ⟨_, (by (focus ((repeat (first | exact SelT.nil | apply SelT.yes | apply SelT.no)); done))), ?_⟩;
               (first | (apply EvW.sliceOwn_hi; exact rfl; exact UndC.eq; exact SzC.eq; (focus ((repeat (first | exact Take.head | apply Take.tail)); done)); exact rfl; omega; omega)))
          apply Par.eff _ [false, false, true, false, false, false, false, false, false, false] [false, false, false, true, false, false, false, false, false, false] [true, true, false, false, true, true, true, true, true, true]
          · exact rfl
          · exact rfl
          · decide +kernel
          · intro R
            refine ⟨_, _, _, (by (focus ((repeat (first | exact SelT.nil | apply SelT.yes | apply SelT.no)); done))), (by (focus ((repeat (first | exact SelT.nil | apply SelT.yes | apply SelT.no)); done))), (by (focus ((repeat (first | exact SelT.nil | apply SelT.yes | apply SelT.no)); done))), ?_⟩
            apply EffW.callA ([.blk b (Value.map (o) :: i64 (m).ar :: i64 (m).ac :: Value.bool (m).off :: ((m).pages.map str ++ (m).worn.map i64)).toArray 41])
            · exact rfl
            · exact fun w => Try.call11 _ w
            · (focus ((repeat (first | exact TakeL.nil | apply TakeL.cons | exact Take.head | apply Take.tail)); done))
            · exact fun w1 S1 hS1 hs1 ho1 => (by have h := burn_bad b o m i x.pg x.pos (subSl 1 0 ((x.ps.length : Nat) : Int).toNat a7) x.ps T w1 S1 hS1 (own_front (e := 9) (ho1 _ _ (by (focus ((repeat (first | exact Take.head | apply Take.tail)); done)))) (by simp) (by omega)) (by omega) hT (by omega) hm hbad; rw [he] at h; exact h)
            · exact fun _ _ h => h
            · exact fun _ h => TakeT.st (by (focus ((repeat (first | exact TakeT.tail | apply TakeT.cons | exact Take.head | apply Take.tail | apply TakeT.drop)); done))) h
          (apply Par.quiet _ [true, true, false, true, true, true, true, true, true, true]; exact rfl; decide +kernel; exact rfl; intro R; refine ⟨_, (by (focus ((repeat (first | exact SelT.nil | apply SelT.yes | apply SelT.no)); done))), ?_⟩;
               (first | (apply EvW.assign; exact rfl)))
          exact Par.nil
        · repeat (first | exact AllN.nil | (apply AllN.cons; (intro c x; (repeat (first | exact IndA.nil | (apply IndA.skip; decide +kernel) | apply IndA.same))))) 
        · repeat (first | exact AllN.nil | (apply AllN.cons; (intro c x; (repeat (first | exact IndT.nil | (apply IndT.skip; decide +kernel) | apply IndT.same))))) 
        · exact fun _ => rfl
        intro c
        refine ⟨_, (by (focus ((repeat (first | exact SelT.nil | apply SelT.yes | apply SelT.no)); done))), ?_⟩
        apply WE.writ
        · (focus ((repeat (first | exact Writ.nil | apply Writ.some | apply Writ.none)); done))
        repeat first
          | refine WC.seq ?_ | refine WE.next ?_
        repeat refine WC.seq ?_
        refine WC.keep (xs := [.own 9 1 a7 ((x).ps.length + 1) ((x).ps.map str ++ [str spareB]), .blk z #[i64 (x).k, i64 (x).pg, i64 (x).pos, i64 (x).n, (x).pv, (x).cv] 51, .blk b (Value.map (o) :: i64 (m).ar :: i64 (m).ac :: Value.bool (m).off :: ((m).pages.map str ++ (m).worn.map i64)).toArray 41, .omap o mp, .blk r #[bv, wv, cv, i64 (m).ar, i64 (m).ac, .bool (m).off] 59, .own 31 1 bv 24 ((pgs).map pgV), sepL ((pgs).map (pgH 5)), .own 3 1 wv 24 ((m).worn.map i64), .own 43 2 cv (cs).length ((cs).flatMap cutC)]) (by (focus ((repeat (first | exact TakeL.nil | apply TakeL.cons | exact Take.head | apply Take.tail)); done))) ?_
        apply WC.par _ (fun c : Ch => [.own 9 1 a7 ((x).ps.length + 1) ((x).ps.map str ++ [str spareB]), .blk z #[i64 (x).k, i64 (x).pg, i64 (x).pos, i64 (x).n, (x).pv, (x).cv] 51, .blk b (Value.map (o) :: i64 (m).ar :: i64 (m).ac :: Value.bool (m).off :: ((m).pages.map str ++ (m).worn.map i64)).toArray 41, .omap o mp, .blk r #[bv, wv, cv, i64 (m).ar, i64 (m).ac, .bool (m).off] 59, .blk r #[bv, wv, cv, i64 (m).ar, i64 (m).ac, .bool (m).off] 59, .own 31 1 bv 24 ((pgs).map pgV), .own 31 1 bv 24 ((pgs).map pgV), sepL ((pgs).map (pgH 5)), sepL ((pgs).map (pgH 5)), .own 3 1 wv 24 ((m).worn.map i64), .own 43 2 cv (cs).length ((cs).flatMap cutC)]) [none, none, none, none, none, some 9, none, some 9, none, some 9, none, none] [none, none, none, none, some 9, none, some 9, none, some 9, none, none, none] [] Try.mixed
        · (focus ((repeat (first | exact Restr.nil | (apply Restr.keep; exact rfl; exact rfl) | (apply Restr.drop; exact rfl))); done))
        · intro c; exact (by (focus ((repeat (first | exact SelT.nil | apply SelT.yes | apply SelT.no)); done)))
        · exact rfl
        · decide +kernel
        · decide +kernel
        · intro c
          (apply Par.quiet _ [true, true, true, true, false, false, false, false, false, false, true, true]; exact rfl; decide +kernel; exact rfl; intro R; refine ⟨_, (by (focus ((repeat (first | exact SelT.nil | apply SelT.yes | apply SelT.no)); done))), ?_⟩;
               (first | (apply EvW.move; exact rfl)))
          (apply Par.quiet _ [true, true, true, true, true, false, true, false, true, false, true, true]; exact rfl; decide +kernel; exact rfl; intro R; refine ⟨_, (by (focus ((repeat (first | exact SelT.nil | apply SelT.yes | apply SelT.no)); done))), ?_⟩;
               (first | (apply EvW.move; exact rfl)))
          (apply Par.quiet _ [true, true, true, true, true, false, true, false, true, false, true, true]; exact rfl; decide +kernel; exact rfl; intro R; refine ⟨_, (by (focus ((repeat (first | exact SelT.nil | apply SelT.yes | apply SelT.no)); done))), ?_⟩;
               (first | (apply EvW.fieldAddr0; exact rfl; exact FldC.eq)))
          (apply Par.quiet _ [true, true, true, true, true, false, true, false, true, false, true, true]; exact rfl; decide +kernel; exact rfl; intro R; refine ⟨_, (by (focus ((repeat (first | exact SelT.nil | apply SelT.yes | apply SelT.no)); done))), ?_⟩;
               (first | (apply EvW.load; exact rfl; exact ScalC.eq; (focus ((repeat (first | exact Take.head | apply Take.tail)); done)); exact rfl)))
          (apply Par.quiet _ [true, true, true, true, true, false, true, false, true, false, true, true]; exact rfl; decide +kernel; exact rfl; intro R; refine ⟨_, (by (focus ((repeat (first | exact SelT.nil | apply SelT.yes | apply SelT.no)); done))), ?_⟩;
               (first | (apply EvW.fieldAddr0; exact rfl; exact FldC.eq)))
          (apply Par.quiet _ [true, true, true, true, true, false, true, false, true, false, true, true]; exact rfl; decide +kernel; exact rfl; intro R; refine ⟨_, (by (focus ((repeat (first | exact SelT.nil | apply SelT.yes | apply SelT.no)); done))), ?_⟩;
               (first | (apply EvW.load; exact rfl; exact ScalC.eq; (focus ((repeat (first | exact Take.head | apply Take.tail)); done)); exact rfl)))
          (apply Par.quiet _ [true, true, true, true, true, false, true, false, true, false, true, true]; exact rfl; decide +kernel; exact rfl; intro R; refine ⟨_, (by (focus ((repeat (first | exact SelT.nil | apply SelT.yes | apply SelT.no)); done))), ?_⟩;
               (first | (apply EvW.fieldAddr0; exact rfl; exact FldC.eq)))
          (apply Par.quiet _ [true, true, true, true, true, false, true, false, true, false, true, true]; exact rfl; decide +kernel; exact rfl; intro R; refine ⟨_, (by (focus ((repeat (first | exact SelT.nil | apply SelT.yes | apply SelT.no)); done))), ?_⟩;
               (first | (apply EvW.load; exact rfl; exact ScalC.eq; (focus ((repeat (first | exact Take.head | apply Take.tail)); done)); exact rfl)))
          apply Par.quiet _ [true, true, true, true, true, false, true, false, true, false, true, true]
          · exact rfl
          · decide +kernel
          · exact rfl
          · intro R
            refine ⟨_, (by (focus ((repeat (first | exact SelT.nil | apply SelT.yes | apply SelT.no)); done))), ?_⟩
            apply EvW.callK ([])
            · exact rfl
            · exact fun w => Try.call20 _ w
            · (focus ((repeat (first | exact TakeL.nil | apply TakeL.cons | exact Take.head | apply Take.tail)); done))
            · exact fun w1 S1 hS1 hs1 ho1 => (by have h := all_spec x.pv x.ps w1 S1 hS1 (hs1 _ hxo.parts) hfl hpl; rw [hT] at h; exact h)
            · exact fun _ _ h => h
          apply Par.eff _ [false, false, false, false, true, false, true, false, true, false, false, false] [false, false, false, false, false, true, false, true, false, true, false, false] [true, true, true, true, false, false, false, false, false, false, true, true]
          · exact rfl
          · exact rfl
          · decide +kernel
          · intro R
            refine ⟨_, _, _, (by (focus ((repeat (first | exact SelT.nil | apply SelT.yes | apply SelT.no)); done))), (by (focus ((repeat (first | exact SelT.nil | apply SelT.yes | apply SelT.no)); done))), (by (focus ((repeat (first | exact SelT.nil | apply SelT.yes | apply SelT.no)); done))), ?_⟩
            apply EffW.callA ([.blk r #[bv, wv, cv, i64 (m).ar, i64 (m).ac, .bool (m).off] 59, .own 31 1 bv 24 ((pgs).map pgV), sepL ((pgs).map (pgH 5))])
            · exact rfl
            · exact fun w => Try.call19 _ w
            · (focus ((repeat (first | exact TakeL.nil | apply TakeL.cons | exact Take.head | apply Take.tail)); done))
            · exact fun w1 S1 hS1 hs1 ho1 => (by have h := rburn_bad r bv wv cv pgs m i x.pg x.pos T w1 S1 hS1 hm hP (by omega) hbad; rw [he] at h; exact h)
            · exact fun _ _ h => h
            · exact fun _ h => TakeT.st (by (focus ((repeat (first | exact TakeT.tail | apply TakeT.cons | exact Take.head | apply Take.tail | apply TakeT.drop)); done))) h
          (apply Par.quiet _ [true, true, true, true, false, true, false, true, false, true, true, true]; exact rfl; decide +kernel; exact rfl; intro R; refine ⟨_, (by (focus ((repeat (first | exact SelT.nil | apply SelT.yes | apply SelT.no)); done))), ?_⟩;
               (first | (apply EvW.cmpF; exact rfl; exact rfl; exact rfl; omega)))
          (apply Par.quiet _ [true, true, true, true, false, true, false, true, false, true, true, true]; exact rfl; decide +kernel; exact rfl; intro R; refine ⟨_, (by (focus ((repeat (first | exact SelT.nil | apply SelT.yes | apply SelT.no)); done))), ?_⟩;
               (first | (apply EvW.move; exact rfl)))
          first
            | (apply Par.skip; exact rfl; decide +kernel; exact rfl)
            | (apply Par.quiet _ [true, true, true, true, false, true, false, true, false, true, true, true]; exact rfl; decide +kernel; exact rfl; intro R; refine ⟨_, (by (focus ((repeat (first | exact SelT.nil | apply SelT.yes | apply SelT.no)); done))), ?_⟩;
               (first | (apply EvW.move; exact rfl)))
          first
            | (apply Par.skip; exact rfl; decide +kernel; exact rfl)
            | (apply Par.quiet _ [true, true, true, true, false, true, false, true, false, true, true, true]; exact rfl; decide +kernel; exact rfl; intro R; refine ⟨_, (by (focus ((repeat (first | exact SelT.nil | apply SelT.yes | apply SelT.no)); done))), ?_⟩;
               (first | (apply EvW.fieldAddr0; exact rfl; exact FldC.eq)))
          first
            | (apply Par.skip; exact rfl; decide +kernel; exact rfl)
            | (apply Par.quiet _ [true, true, true, true, false, true, false, true, false, true, true, true]; exact rfl; decide +kernel; exact rfl; intro R; refine ⟨_, (by (focus ((repeat (first | exact SelT.nil | apply SelT.yes | apply SelT.no)); done))), ?_⟩;
               (first | (apply EvW.load; exact rfl; exact ScalC.eq; (focus ((repeat (first | exact Take.head | apply Take.tail)); done)); exact rfl)))
          first
            | (apply Par.skip; exact rfl; decide +kernel; exact rfl)
            | (apply Par.quiet _ [true, true, true, true, false, true, false, true, false, true, true, true]; exact rfl; decide +kernel; exact rfl; intro R; refine ⟨_, (by (focus ((repeat (first | exact SelT.nil | apply SelT.yes | apply SelT.no)); done))), ?_⟩;
               (first | (apply EvW.lenRow; exact rfl; exact UndC.eq; assumption)))
          first
            | (apply Par.skip; exact rfl; decide +kernel; exact rfl)
            | (apply Par.quiet _ [true, true, true, true, false, true, false, true, false, true, true, true]; exact rfl; decide +kernel; exact rfl; intro R; refine ⟨_, (by (focus ((repeat (first | exact SelT.nil | apply SelT.yes | apply SelT.no)); done))), ?_⟩;
               (first | (apply EvW.idxOwn; exact rfl; exact rfl; exact UndC.eq; exact SzC.eq; (focus ((repeat (first | exact Take.head | apply Take.tail)); done)); omega; omega)))
          apply Par.quiet _ [true, true, true, true, false, true, false, true, false, true, true, true]
          · exact rfl
          · decide +kernel
          · exact rfl
          · intro R
            refine ⟨_, (by (focus ((repeat (first | exact SelT.nil | apply SelT.yes | apply SelT.no)); done))), ?_⟩
            (apply EvW.ldOwn (i := x.ps.length) (off := 0) (q := str spareB); exact rfl; exact ScalC.eq; (focus ((repeat (first | exact Take.head | apply Take.tail)); done)); simp)
          first
            | (apply Par.skip; exact rfl; decide +kernel; exact rfl)
            | (apply Par.quiet _ [true, true, true, true, false, true, false, true, false, true, true, true]; exact rfl; decide +kernel; exact rfl; intro R; refine ⟨_, (by (focus ((repeat (first | exact SelT.nil | apply SelT.yes | apply SelT.no)); done))), ?_⟩;
               (first | (apply EvW.sneS; exact rfl; exact rfl)))
          (apply Par.quiet _ [true, true, true, true, false, true, false, true, false, true, true, true]; exact rfl; decide +kernel; exact rfl; intro R; refine ⟨_, (by (focus ((repeat (first | exact SelT.nil | apply SelT.yes | apply SelT.no)); done))), ?_⟩;
               (first | (apply EvW.pickF; exact rfl; exact rfl)))
          (apply Par.quiet _ [true, true, true, true, false, true, false, true, false, true, true, true]; exact rfl; decide +kernel; exact rfl; intro R; refine ⟨_, (by (focus ((repeat (first | exact SelT.nil | apply SelT.yes | apply SelT.no)); done))), ?_⟩;
               (first | (apply EvW.move; exact rfl)))
          first
            | (apply Par.skip; exact rfl; decide +kernel; exact rfl)
            | (apply Par.quiet _ [true, true, true, true, false, true, false, true, false, true, true, true]; exact rfl; decide +kernel; exact rfl; intro R; refine ⟨_, (by (focus ((repeat (first | exact SelT.nil | apply SelT.yes | apply SelT.no)); done))), ?_⟩;
               (first | (apply EvW.move; exact rfl)))
          first
            | (apply Par.skip; exact rfl; decide +kernel; exact rfl)
            | (apply Par.quiet _ [true, true, true, true, false, true, false, true, false, true, true, true]; exact rfl; decide +kernel; exact rfl; intro R; refine ⟨_, (by (focus ((repeat (first | exact SelT.nil | apply SelT.yes | apply SelT.no)); done))), ?_⟩;
               (first | (apply EvW.fieldAddr0; exact rfl; exact FldC.eq)))
          first
            | (apply Par.skip; exact rfl; decide +kernel; exact rfl)
            | (apply Par.quiet _ [true, true, true, true, false, true, false, true, false, true, true, true]; exact rfl; decide +kernel; exact rfl; intro R; refine ⟨_, (by (focus ((repeat (first | exact SelT.nil | apply SelT.yes | apply SelT.no)); done))), ?_⟩;
               (first | (apply EvW.load; exact rfl; exact ScalC.eq; (focus ((repeat (first | exact Take.head | apply Take.tail)); done)); exact rfl)))
          first
            | (apply Par.skip; exact rfl; decide +kernel; exact rfl)
            | (apply Par.quiet _ [true, true, true, true, false, true, false, true, false, true, true, true]; exact rfl; decide +kernel; exact rfl; intro R; refine ⟨_, (by (focus ((repeat (first | exact SelT.nil | apply SelT.yes | apply SelT.no)); done))), ?_⟩;
               (first | (apply EvW.lenRow; exact rfl; exact UndC.eq; assumption)))
          first
            | (apply Par.skip; exact rfl; decide +kernel; exact rfl)
            | (apply Par.quiet _ [true, true, true, true, false, true, false, true, false, true, true, true]; exact rfl; decide +kernel; exact rfl; intro R; refine ⟨_, (by (focus ((repeat (first | exact SelT.nil | apply SelT.yes | apply SelT.no)); done))), ?_⟩;
               (first | (apply EvW.sliceOwn_hi; exact rfl; exact UndC.eq; exact SzC.eq; (focus ((repeat (first | exact Take.head | apply Take.tail)); done)); exact rfl; omega; omega)))
          apply Par.quiet _ [true, true, true, true, false, true, false, true, false, true, true, true]
          · exact rfl
          · decide +kernel
          · exact rfl
          · intro R
            refine ⟨_, (by (focus ((repeat (first | exact SelT.nil | apply SelT.yes | apply SelT.no)); done))), ?_⟩
            apply EvW.callK ([])
            · exact rfl
            · exact fun w => Try.call20 _ w
            · (focus ((repeat (first | exact TakeL.nil | apply TakeL.cons | exact Take.head | apply Take.tail)); done))
            · exact fun w1 S1 hS1 hs1 ho1 => (by have h := all_spec (subSl 1 0 ((x.ps.length : Nat) : Int).toNat a7) x.ps w1 S1 hS1 (own_front (e := 9) (ho1 _ _ (by (focus ((repeat (first | exact Take.head | apply Take.tail)); done)))) (by simp) (by omega)) hfl hpl; rw [hT] at h; exact h)
            · exact fun _ _ h => h
          first
            | (apply Par.skip; exact rfl; decide +kernel; exact rfl)
            | (apply Par.quiet _ [true, true, true, true, false, true, false, true, false, true, true, true]; exact rfl; decide +kernel; exact rfl; intro R; refine ⟨_, (by (focus ((repeat (first | exact SelT.nil | apply SelT.yes | apply SelT.no)); done))), ?_⟩;
               (first | (apply EvW.fieldAddr0; exact rfl; exact FldC.eq)))
          first
            | (apply Par.skip; exact rfl; decide +kernel; exact rfl)
            | (apply Par.quiet _ [true, true, true, true, false, true, false, true, false, true, true, true]; exact rfl; decide +kernel; exact rfl; intro R; refine ⟨_, (by (focus ((repeat (first | exact SelT.nil | apply SelT.yes | apply SelT.no)); done))), ?_⟩;
               (first | (apply EvW.load; exact rfl; exact ScalC.eq; (focus ((repeat (first | exact Take.head | apply Take.tail)); done)); exact rfl)))
          apply Par.quiet _ [true, true, true, true, false, true, false, true, false, true, true, true]
          · exact rfl
          · decide +kernel
          · exact rfl
          · intro R
            refine ⟨_, (by (focus ((repeat (first | exact SelT.nil | apply SelT.yes | apply SelT.no)); done))), ?_⟩
            apply EvW.callK ([])
            · exact rfl
            · exact fun w => Try.call20 _ w
            · (focus ((repeat (first | exact TakeL.nil | apply TakeL.cons | exact Take.head | apply Take.tail)); done))
            · exact fun w1 S1 hS1 hs1 ho1 => (by have h := all_spec x.pv x.ps w1 S1 hS1 (hs1 _ hxo.parts) hfl hpl; rw [hT] at h; exact h)
            · exact fun _ _ h => h
          first
            | (apply Par.skip; exact rfl; decide +kernel; exact rfl)
            | (apply Par.quiet _ [true, true, true, true, false, true, false, true, false, true, true, true]; exact rfl; decide +kernel; exact rfl; intro R; refine ⟨_, (by (focus ((repeat (first | exact SelT.nil | apply SelT.yes | apply SelT.no)); done))), ?_⟩;
               (first | (apply EvW.sneS; exact rfl; exact rfl)))
          (apply Par.quiet _ [true, true, true, true, false, true, false, true, false, true, true, true]; exact rfl; decide +kernel; exact rfl; intro R; refine ⟨_, (by (focus ((repeat (first | exact SelT.nil | apply SelT.yes | apply SelT.no)); done))), ?_⟩;
               (first | (apply EvW.pickF; exact rfl; exact rfl)))
          exact Par.nil
        · repeat (first | exact AllN.nil | (apply AllN.cons; (intro c x; (repeat (first | exact IndA.nil | (apply IndA.skip; decide +kernel) | apply IndA.same))))) 
        · repeat (first | exact AllN.nil | (apply AllN.cons; (intro c x; (repeat (first | exact IndT.nil | (apply IndT.skip; decide +kernel) | apply IndT.same))))) 
        · exact fun _ => rfl
        intro c
        refine ⟨_, (by (focus ((repeat (first | exact SelT.nil | apply SelT.yes | apply SelT.no)); done))), ?_⟩
        apply WE.writ
        · (focus ((repeat (first | exact Writ.nil | apply Writ.some | apply Writ.none)); done))
        repeat first
          | (apply WL.q; exact rfl; exact rfl; exact rfl; (first | (apply EvW.move; exact rfl) | (apply EvW.fieldAddr0; exact rfl; exact FldC.eq) | (apply EvW.load; exact rfl; exact ScalC.eq; (focus ((repeat (first | exact Take.head | apply Take.tail)); done)); exact rfl)))
          | refine WC.seq ?_ | refine WC.region ?_ | refine WE.next ?_ | refine WC.skip ?_ | refine WE.out ?_ | refine WC.condF rfl ?_
        try refine WL.wanted rfl rfl rfl ?_
        apply WL.callA ([.blk b (Value.map (o) :: i64 (m).ar :: i64 (m).ac :: Value.bool (m).off :: ((m).pages.map str ++ (m).worn.map i64)).toArray 41, .blk r #[bv, wv, cv, i64 (m).ar, i64 (m).ac, .bool (m).off] 59, .own 31 1 bv 24 ((pgs).map pgV), sepL ((pgs).map (pgH 5)), .own 3 1 wv 24 ((m).worn.map i64)])
        · exact rfl
        · exact rfl
        · exact fun w => Try.call25 _ w
        · (focus ((repeat (first | exact TakeL.nil | apply TakeL.cons | exact Take.head | apply Take.tail)); done))
        · exact fun w1 S1 hS1 hs1 ho1 => told_spec b (o) r bv wv cv pgs (m) (i + 1) _ x.pg w1 S1 hS1 hI2.wf hI2.pages rfl
        rintro _ _ ⟨rfl, rfl⟩
        first | refine WL.app4 ?_ | refine WL.app3 ?_ | refine WL.app2 ?_ | refine WL.app1 ?_ | refine WL.app0 ?_ | skip
        repeat first
          | (apply WL.q; exact rfl; exact rfl; exact rfl; (first | (apply EvW.move; exact rfl) | (apply EvW.arN; exact rfl; exact rfl; exact rfl; refine i64_in ?_ ?_ <;> omega) | (apply EvW.notT; exact rfl)))
          | refine WC.region ?_ | refine WL.nil ?_ | refine WE.next ?_ | refine WC.skip ?_ | refine WE.out ?_ | refine WC.condF rfl ?_
        exact WE.again (s := (i, b, o, mp, r, bv, wv, cv, pgs, m, cs)) ((i + 1, b, o, mp, r, bv, wv, cv, pgs, m, cs)) ⟨by simp only []; omega, hI2⟩ (by (focus ((repeat (first | exact trivial | (refine ⟨rfl, ?_⟩))); done))) (fun _ h => (by (try simp only []); exact h.keep (by (focus ((repeat (first | exact TakeL.nil | apply TakeL.cons | exact Take.head | apply Take.tail)); done))))) (by (try simp only []); omega)
    by_cases hk2 : x.k = 2
    · repeat first
        | (apply WL.q; exact rfl; exact rfl; exact rfl; (first | (apply EvW.assign; exact rfl) | (apply EvW.fieldAddr0; exact rfl; exact FldC.eq) | (apply EvW.load; exact rfl; exact ScalC.eq; (focus ((repeat (first | exact Take.head | apply Take.tail)); done)); exact rfl) | (apply EvW.cmpT; exact rfl; exact rfl; exact rfl; omega) | (apply EvW.cmpF; exact rfl; exact rfl; exact rfl; omega)))
        | refine WC.seq ?_ | refine WC.region ?_ | refine WL.nil ?_ | refine WE.next ?_ | refine WC.block ?_ | refine WC.condT rfl ?_ | refine WC.condF rfl ?_ | (apply WL.store; exact rfl; exact rfl; (first | assumption | exact rfl); exact SzC.eq; (first | assumption | exact rfl); (focus ((repeat (first | apply UpdC.head | apply UpdC.tail | exact SetMany.nil | apply SetMany.cons | apply SetMany.succ)); done)))
      by_cases hpl : m.place x.pg 0 = 0
      · obtain ⟨ct, hct⟩ : ∃ ct, cutAt m.ar cs = ct := ⟨_, rfl⟩
        obtain ⟨e, he⟩ : ∃ e, (cutF ct 4096).2 = e := ⟨_, rfl⟩
        obtain ⟨M2, hM⟩ : ∃ M2, (m.erased x.pg (cutF ct 4096).1).act ct = M2 := ⟨_, rfl⟩
        obtain ⟨pgs2, hg⟩ : ∃ pgs2, pgs.set x.pg.toNat ⟨(pgs.getD x.pg.toNat default).v, put (m.page x.pg) (bareB 4096) 0 (cutF ct 4096).1.toNat⟩ = pgs2 := ⟨_, rfl⟩
        have hc : mget m.ar mp = ct.map i64 := by rw [← hct]; exact hI.cuts.here
        have hpo := place_zero hpl
        have hI2 : PlayI M2 o (mdel m.ar mp) pgs2 cs (i + 1) := ⟨by rw [← hM]; exact erase_wf hm hpo.2.1, by rw [← hM, ← hg]; exact erased_pages hP hpo.2.1, mdel_none hI.none', by rw [← hM]; exact hI.cuts.next, hcl⟩
        repeat refine WC.seq ?_
        refine WC.keep (xs := [.blk z #[i64 (x).k, i64 (x).pg, i64 (x).pos, i64 (x).n, (x).pv, (x).cv] 51, .blk b (Value.map (o) :: i64 (m).ar :: i64 (m).ac :: Value.bool (m).off :: ((m).pages.map str ++ (m).worn.map i64)).toArray 41, .omap o mp, .blk r #[bv, wv, cv, i64 (m).ar, i64 (m).ac, .bool (m).off] 59, .own 31 1 bv 24 ((pgs).map pgV), sepL ((pgs).map (pgH 5)), .own 3 1 wv 24 ((m).worn.map i64), .own 43 2 cv (cs).length ((cs).flatMap cutC)]) (by (focus ((repeat (first | exact TakeL.nil | apply TakeL.cons | exact Take.head | apply Take.tail)); done))) ?_
        apply WC.par _ (fun c : Ch => [.blk z #[i64 (x).k, i64 (x).pg, i64 (x).pos, i64 (x).n, (x).pv, (x).cv] 51, .blk b (Value.map (o) :: i64 (m).ar :: i64 (m).ac :: Value.bool (m).off :: ((m).pages.map str ++ (m).worn.map i64)).toArray 41, .blk b (Value.map (o) :: i64 (M2).ar :: i64 (M2).ac :: Value.bool (M2).off :: ((M2).pages.map str ++ (M2).worn.map i64)).toArray 41, .omap o mp, .omap o (mdel m.ar mp), .blk r #[bv, wv, cv, i64 (m).ar, i64 (m).ac, .bool (m).off] 59, .blk r #[bv, wv, cv, i64 (M2).ar, i64 (M2).ac, .bool (M2).off] 59, .own 31 1 bv 24 ((pgs).map pgV), .own 31 1 bv 24 ((pgs2).map pgV), sepL ((pgs).map (pgH 5)), sepL ((pgs2).map (pgH 5)), .own 3 1 wv 24 ((m).worn.map i64), .own 3 1 wv 24 ((M2).worn.map i64), .own 43 2 cv (cs).length ((cs).flatMap cutC), .own 43 2 cv (cs).length ((cs).flatMap cutC)]) [none, none, some 3, none, some 3, none, some 7, none, some 7, none, some 7, none, some 7, none, some 7] [none, some 3, none, some 3, none, some 7, none, some 7, none, some 7, none, some 7, none, some 7, none] [] Try.mixed
        · (focus ((repeat (first | exact Restr.nil | (apply Restr.keep; exact rfl; exact rfl) | (apply Restr.drop; exact rfl))); done))
        · intro c; exact (by (focus ((repeat (first | exact SelT.nil | apply SelT.yes | apply SelT.no)); done)))
        · exact rfl
        · decide +kernel
        · decide +kernel
        · intro c
          (apply Par.quiet _ [true, true, false, true, false, true, false, true, false, true, false, true, false, true, false]; exact rfl; decide +kernel; exact rfl; intro R; refine ⟨_, (by (focus ((repeat (first | exact SelT.nil | apply SelT.yes | apply SelT.no)); done))), ?_⟩;
               (first | (apply EvW.move; exact rfl)))
          (apply Par.quiet _ [true, true, false, true, false, true, false, true, false, true, false, true, false, true, false]; exact rfl; decide +kernel; exact rfl; intro R; refine ⟨_, (by (focus ((repeat (first | exact SelT.nil | apply SelT.yes | apply SelT.no)); done))), ?_⟩;
               (first | (apply EvW.fieldAddr0; exact rfl; exact FldC.eq)))
          (apply Par.quiet _ [true, true, false, true, false, true, false, true, false, true, false, true, false, true, false]; exact rfl; decide +kernel; exact rfl; intro R; refine ⟨_, (by (focus ((repeat (first | exact SelT.nil | apply SelT.yes | apply SelT.no)); done))), ?_⟩;
               (first | (apply EvW.load; exact rfl; exact ScalC.eq; (focus ((repeat (first | exact Take.head | apply Take.tail)); done)); exact rfl)))
          apply Par.eff _ [false, true, false, true, false, false, false, false, false, false, false, false, false, false, false] [false, false, true, false, true, false, false, false, false, false, false, false, false, false, false] [true, false, false, false, false, true, false, true, false, true, false, true, false, true, false]
          · exact rfl
          · exact rfl
          · decide +kernel
          · intro R
            refine ⟨_, _, _, (by (focus ((repeat (first | exact SelT.nil | apply SelT.yes | apply SelT.no)); done))), (by (focus ((repeat (first | exact SelT.nil | apply SelT.yes | apply SelT.no)); done))), (by (focus ((repeat (first | exact SelT.nil | apply SelT.yes | apply SelT.no)); done))), ?_⟩
            apply EffW.callA ([.blk b (Value.map (o) :: i64 (m).ar :: i64 (m).ac :: Value.bool (m).off :: ((m).pages.map str ++ (m).worn.map i64)).toArray 41, .omap o mp])
            · exact rfl
            · exact fun w => Try.call15 _ w
            · (focus ((repeat (first | exact TakeL.nil | apply TakeL.cons | exact Take.head | apply Take.tail)); done))
            · exact fun w1 S1 hS1 hs1 ho1 => erase_to b o m i mp x.pg ct e M2 w1 S1 hS1 hpl hm (by omega) hI.none' hc he hM
            · exact fun _ _ h => h
            · exact fun _ h => TakeT.st (by (focus ((repeat (first | exact TakeT.tail | apply TakeT.cons | exact Take.head | apply Take.tail | apply TakeT.drop)); done))) h
          (apply Par.quiet _ [true, false, false, false, false, true, false, true, false, true, false, true, false, true, false]; exact rfl; decide +kernel; exact rfl; intro R; refine ⟨_, (by (focus ((repeat (first | exact SelT.nil | apply SelT.yes | apply SelT.no)); done))), ?_⟩;
               (first | (apply EvW.move; exact rfl)))
          (apply Par.quiet _ [true, false, false, false, false, true, false, true, false, true, false, true, false, true, false]; exact rfl; decide +kernel; exact rfl; intro R; refine ⟨_, (by (focus ((repeat (first | exact SelT.nil | apply SelT.yes | apply SelT.no)); done))), ?_⟩;
               (first | (apply EvW.fieldAddr0; exact rfl; exact FldC.eq)))
          (apply Par.quiet _ [true, false, false, false, false, true, false, true, false, true, false, true, false, true, false]; exact rfl; decide +kernel; exact rfl; intro R; refine ⟨_, (by (focus ((repeat (first | exact SelT.nil | apply SelT.yes | apply SelT.no)); done))), ?_⟩;
               (first | (apply EvW.load; exact rfl; exact ScalC.eq; (focus ((repeat (first | exact Take.head | apply Take.tail)); done)); exact rfl)))
          apply Par.eff _ [false, false, false, false, false, true, false, true, false, true, false, true, false, true, false] [false, false, false, false, false, false, true, false, true, false, true, false, true, false, true] [true, false, true, false, true, false, false, false, false, false, false, false, false, false, false]
          · exact rfl
          · exact rfl
          · decide +kernel
          · intro R
            refine ⟨_, _, _, (by (focus ((repeat (first | exact SelT.nil | apply SelT.yes | apply SelT.no)); done))), (by (focus ((repeat (first | exact SelT.nil | apply SelT.yes | apply SelT.no)); done))), (by (focus ((repeat (first | exact SelT.nil | apply SelT.yes | apply SelT.no)); done))), ?_⟩
            apply EffW.callA ([.blk r #[bv, wv, cv, i64 (m).ar, i64 (m).ac, .bool (m).off] 59, .own 31 1 bv 24 ((pgs).map pgV), sepL ((pgs).map (pgH 5)), .own 3 1 wv 24 ((m).worn.map i64), .own 43 2 cv (cs).length ((cs).flatMap cutC)])
            · exact rfl
            · exact fun w => Try.call21 _ w
            · (focus ((repeat (first | exact TakeL.nil | apply TakeL.cons | exact Take.head | apply Take.tail)); done))
            · exact fun w1 S1 hS1 hs1 ho1 => rerase_to r bv wv cv pgs m i x.pg cs pgs2 ct e M2 w1 S1 hS1 hm hP (by omega) (by omega) hpl hct he hM hg
            · exact fun _ _ h => h
            · exact fun _ h => TakeT.st (by (focus ((repeat (first | exact TakeT.tail | apply TakeT.cons | exact Take.head | apply Take.tail | apply TakeT.drop)); done))) h
          (apply Par.quiet _ [true, false, true, false, true, false, true, false, true, false, true, false, true, false, true]; exact rfl; decide +kernel; exact rfl; intro R; refine ⟨_, (by (focus ((repeat (first | exact SelT.nil | apply SelT.yes | apply SelT.no)); done))), ?_⟩;
               (first | (apply EvW.cmpF; exact rfl; exact rfl; exact rfl; omega)))
          exact Par.nil
        · repeat (first | exact AllN.nil | (apply AllN.cons; (intro c x; (repeat (first | exact IndA.nil | (apply IndA.skip; decide +kernel) | apply IndA.same))))) 
        · repeat (first | exact AllN.nil | (apply AllN.cons; (intro c x; (repeat (first | exact IndT.nil | (apply IndT.skip; decide +kernel) | apply IndT.same))))) 
        · exact fun _ => rfl
        intro c
        refine ⟨_, (by (focus ((repeat (first | exact SelT.nil | apply SelT.yes | apply SelT.no)); done))), ?_⟩
        apply WE.writ
        · (focus ((repeat (first | exact Writ.nil | apply Writ.some | apply Writ.none)); done))
        repeat first
          | (apply WL.q; exact rfl; exact rfl; exact rfl; (first | (apply EvW.move; exact rfl) | (apply EvW.fieldAddr0; exact rfl; exact FldC.eq) | (apply EvW.load; exact rfl; exact ScalC.eq; (focus ((repeat (first | exact Take.head | apply Take.tail)); done)); exact rfl)))
          | refine WC.seq ?_ | refine WC.region ?_ | refine WE.next ?_ | refine WC.skip ?_ | refine WE.out ?_ | refine WC.condF rfl ?_
        try refine WL.wanted rfl rfl rfl ?_
        apply WL.callA ([.blk b (Value.map (o) :: i64 (M2).ar :: i64 (M2).ac :: Value.bool (M2).off :: ((M2).pages.map str ++ (M2).worn.map i64)).toArray 41, .blk r #[bv, wv, cv, i64 (M2).ar, i64 (M2).ac, .bool (M2).off] 59, .own 31 1 bv 24 ((pgs2).map pgV), sepL ((pgs2).map (pgH 5)), .own 3 1 wv 24 ((M2).worn.map i64)])
        · exact rfl
        · exact rfl
        · exact fun w => Try.call25 _ w
        · (focus ((repeat (first | exact TakeL.nil | apply TakeL.cons | exact Take.head | apply Take.tail)); done))
        · exact fun w1 S1 hS1 hs1 ho1 => told_spec b (o) r bv wv cv pgs2 (M2) (i + 1) _ x.pg w1 S1 hS1 hI2.wf hI2.pages rfl
        rintro _ _ ⟨rfl, rfl⟩
        first | refine WL.app4 ?_ | refine WL.app3 ?_ | refine WL.app2 ?_ | refine WL.app1 ?_ | refine WL.app0 ?_ | skip
        repeat first
          | (apply WL.q; exact rfl; exact rfl; exact rfl; (first | (apply EvW.move; exact rfl) | (apply EvW.arN; exact rfl; exact rfl; exact rfl; refine i64_in ?_ ?_ <;> omega) | (apply EvW.notT; exact rfl)))
          | refine WC.region ?_ | refine WL.nil ?_ | refine WE.next ?_ | refine WC.skip ?_ | refine WE.out ?_ | refine WC.condF rfl ?_
        exact WE.again (s := (i, b, o, mp, r, bv, wv, cv, pgs, m, cs)) ((i + 1, b, o, mdel m.ar mp, r, bv, wv, cv, pgs2, M2, cs)) ⟨by simp only []; omega, hI2⟩ (by (focus ((repeat (first | exact trivial | (refine ⟨rfl, ?_⟩))); done))) (fun _ h => (by (try simp only []); exact h.keep (by (focus ((repeat (first | exact TakeL.nil | apply TakeL.cons | exact Take.head | apply Take.tail)); done))))) (by (try simp only []); omega)
      · obtain ⟨e, he⟩ : ∃ e, m.place x.pg 0 = e := ⟨_, rfl⟩
        have hI2 := hIn
        repeat refine WC.seq ?_
        refine WC.keep (xs := [.blk z #[i64 (x).k, i64 (x).pg, i64 (x).pos, i64 (x).n, (x).pv, (x).cv] 51, .blk b (Value.map (o) :: i64 (m).ar :: i64 (m).ac :: Value.bool (m).off :: ((m).pages.map str ++ (m).worn.map i64)).toArray 41, .omap o mp, .blk r #[bv, wv, cv, i64 (m).ar, i64 (m).ac, .bool (m).off] 59, .own 31 1 bv 24 ((pgs).map pgV), sepL ((pgs).map (pgH 5)), .own 3 1 wv 24 ((m).worn.map i64), .own 43 2 cv (cs).length ((cs).flatMap cutC)]) (by (focus ((repeat (first | exact TakeL.nil | apply TakeL.cons | exact Take.head | apply Take.tail)); done))) ?_
        apply WC.par _ (fun c : Ch => [.blk z #[i64 (x).k, i64 (x).pg, i64 (x).pos, i64 (x).n, (x).pv, (x).cv] 51, .blk b (Value.map (o) :: i64 (m).ar :: i64 (m).ac :: Value.bool (m).off :: ((m).pages.map str ++ (m).worn.map i64)).toArray 41, .blk b (Value.map (o) :: i64 (m).ar :: i64 (m).ac :: Value.bool (m).off :: ((m).pages.map str ++ (m).worn.map i64)).toArray 41, .omap o mp, .blk r #[bv, wv, cv, i64 (m).ar, i64 (m).ac, .bool (m).off] 59, .blk r #[bv, wv, cv, i64 (m).ar, i64 (m).ac, .bool (m).off] 59, .own 31 1 bv 24 ((pgs).map pgV), sepL ((pgs).map (pgH 5)), .own 3 1 wv 24 ((m).worn.map i64), .own 43 2 cv (cs).length ((cs).flatMap cutC)]) [none, none, some 3, none, none, some 7, none, none, none, none] [none, some 3, none, none, some 7, none, none, none, none, none] [] Try.mixed
        · (focus ((repeat (first | exact Restr.nil | (apply Restr.keep; exact rfl; exact rfl) | (apply Restr.drop; exact rfl))); done))
        · intro c; exact (by (focus ((repeat (first | exact SelT.nil | apply SelT.yes | apply SelT.no)); done)))
        · exact rfl
        · decide +kernel
        · decide +kernel
        · intro c
          (apply Par.quiet _ [true, true, false, true, true, false, true, true, true, true]; exact rfl; decide +kernel; exact rfl; intro R; refine ⟨_, (by (focus ((repeat (first | exact SelT.nil | apply SelT.yes | apply SelT.no)); done))), ?_⟩;
               (first | (apply EvW.move; exact rfl)))
          (apply Par.quiet _ [true, true, false, true, true, false, true, true, true, true]; exact rfl; decide +kernel; exact rfl; intro R; refine ⟨_, (by (focus ((repeat (first | exact SelT.nil | apply SelT.yes | apply SelT.no)); done))), ?_⟩;
               (first | (apply EvW.fieldAddr0; exact rfl; exact FldC.eq)))
          (apply Par.quiet _ [true, true, false, true, true, false, true, true, true, true]; exact rfl; decide +kernel; exact rfl; intro R; refine ⟨_, (by (focus ((repeat (first | exact SelT.nil | apply SelT.yes | apply SelT.no)); done))), ?_⟩;
               (first | (apply EvW.load; exact rfl; exact ScalC.eq; (focus ((repeat (first | exact Take.head | apply Take.tail)); done)); exact rfl)))
          apply Par.eff _ [false, true, false, false, false, false, false, false, false, false] [false, false, true, false, false, false, false, false, false, false] [true, false, false, true, true, false, true, true, true, true]
          · exact rfl
          · exact rfl
          · decide +kernel
          · intro R
            refine ⟨_, _, _, (by (focus ((repeat (first | exact SelT.nil | apply SelT.yes | apply SelT.no)); done))), (by (focus ((repeat (first | exact SelT.nil | apply SelT.yes | apply SelT.no)); done))), (by (focus ((repeat (first | exact SelT.nil | apply SelT.yes | apply SelT.no)); done))), ?_⟩
            apply EffW.callA ([.blk b (Value.map (o) :: i64 (m).ar :: i64 (m).ac :: Value.bool (m).off :: ((m).pages.map str ++ (m).worn.map i64)).toArray 41])
            · exact rfl
            · exact fun w => Try.call15 _ w
            · (focus ((repeat (first | exact TakeL.nil | apply TakeL.cons | exact Take.head | apply Take.tail)); done))
            · exact fun w1 S1 hS1 hs1 ho1 => (by have h := erase_bad b o m x.pg w1 S1 hS1 hpl; rw [he] at h; exact h)
            · exact fun _ _ h => h
            · exact fun _ h => TakeT.st (by (focus ((repeat (first | exact TakeT.tail | apply TakeT.cons | exact Take.head | apply Take.tail | apply TakeT.drop)); done))) h
          (apply Par.quiet _ [true, false, false, true, true, false, true, true, true, true]; exact rfl; decide +kernel; exact rfl; intro R; refine ⟨_, (by (focus ((repeat (first | exact SelT.nil | apply SelT.yes | apply SelT.no)); done))), ?_⟩;
               (first | (apply EvW.move; exact rfl)))
          (apply Par.quiet _ [true, false, false, true, true, false, true, true, true, true]; exact rfl; decide +kernel; exact rfl; intro R; refine ⟨_, (by (focus ((repeat (first | exact SelT.nil | apply SelT.yes | apply SelT.no)); done))), ?_⟩;
               (first | (apply EvW.fieldAddr0; exact rfl; exact FldC.eq)))
          (apply Par.quiet _ [true, false, false, true, true, false, true, true, true, true]; exact rfl; decide +kernel; exact rfl; intro R; refine ⟨_, (by (focus ((repeat (first | exact SelT.nil | apply SelT.yes | apply SelT.no)); done))), ?_⟩;
               (first | (apply EvW.load; exact rfl; exact ScalC.eq; (focus ((repeat (first | exact Take.head | apply Take.tail)); done)); exact rfl)))
          apply Par.eff _ [false, false, false, false, true, false, false, false, false, false] [false, false, false, false, false, true, false, false, false, false] [true, false, true, true, false, false, true, true, true, true]
          · exact rfl
          · exact rfl
          · decide +kernel
          · intro R
            refine ⟨_, _, _, (by (focus ((repeat (first | exact SelT.nil | apply SelT.yes | apply SelT.no)); done))), (by (focus ((repeat (first | exact SelT.nil | apply SelT.yes | apply SelT.no)); done))), (by (focus ((repeat (first | exact SelT.nil | apply SelT.yes | apply SelT.no)); done))), ?_⟩
            apply EffW.callA ([.blk r #[bv, wv, cv, i64 (m).ar, i64 (m).ac, .bool (m).off] 59])
            · exact rfl
            · exact fun w => Try.call21 _ w
            · (focus ((repeat (first | exact TakeL.nil | apply TakeL.cons | exact Take.head | apply Take.tail)); done))
            · exact fun w1 S1 hS1 hs1 ho1 => (by have h := rerase_bad r bv wv cv m x.pg w1 S1 hS1 hpl; rw [he] at h; exact h)
            · exact fun _ _ h => h
            · exact fun _ h => TakeT.st (by (focus ((repeat (first | exact TakeT.tail | apply TakeT.cons | exact Take.head | apply Take.tail | apply TakeT.drop)); done))) h
          (apply Par.quiet _ [true, false, true, true, false, true, true, true, true, true]; exact rfl; decide +kernel; exact rfl; intro R; refine ⟨_, (by (focus ((repeat (first | exact SelT.nil | apply SelT.yes | apply SelT.no)); done))), ?_⟩;
               (first | (apply EvW.cmpF; exact rfl; exact rfl; exact rfl; omega)))
          exact Par.nil
        · repeat (first | exact AllN.nil | (apply AllN.cons; (intro c x; (repeat (first | exact IndA.nil | (apply IndA.skip; decide +kernel) | apply IndA.same))))) 
        · repeat (first | exact AllN.nil | (apply AllN.cons; (intro c x; (repeat (first | exact IndT.nil | (apply IndT.skip; decide +kernel) | apply IndT.same))))) 
        · exact fun _ => rfl
        intro c
        refine ⟨_, (by (focus ((repeat (first | exact SelT.nil | apply SelT.yes | apply SelT.no)); done))), ?_⟩
        apply WE.writ
        · (focus ((repeat (first | exact Writ.nil | apply Writ.some | apply Writ.none)); done))
        repeat first
          | (apply WL.q; exact rfl; exact rfl; exact rfl; (first | (apply EvW.move; exact rfl) | (apply EvW.fieldAddr0; exact rfl; exact FldC.eq) | (apply EvW.load; exact rfl; exact ScalC.eq; (focus ((repeat (first | exact Take.head | apply Take.tail)); done)); exact rfl)))
          | refine WC.seq ?_ | refine WC.region ?_ | refine WE.next ?_ | refine WC.skip ?_ | refine WE.out ?_ | refine WC.condF rfl ?_
        try refine WL.wanted rfl rfl rfl ?_
        apply WL.callA ([.blk b (Value.map (o) :: i64 (m).ar :: i64 (m).ac :: Value.bool (m).off :: ((m).pages.map str ++ (m).worn.map i64)).toArray 41, .blk r #[bv, wv, cv, i64 (m).ar, i64 (m).ac, .bool (m).off] 59, .own 31 1 bv 24 ((pgs).map pgV), sepL ((pgs).map (pgH 5)), .own 3 1 wv 24 ((m).worn.map i64)])
        · exact rfl
        · exact rfl
        · exact fun w => Try.call25 _ w
        · (focus ((repeat (first | exact TakeL.nil | apply TakeL.cons | exact Take.head | apply Take.tail)); done))
        · exact fun w1 S1 hS1 hs1 ho1 => told_spec b (o) r bv wv cv pgs (m) (i + 1) _ x.pg w1 S1 hS1 hI2.wf hI2.pages rfl
        rintro _ _ ⟨rfl, rfl⟩
        first | refine WL.app4 ?_ | refine WL.app3 ?_ | refine WL.app2 ?_ | refine WL.app1 ?_ | refine WL.app0 ?_ | skip
        repeat first
          | (apply WL.q; exact rfl; exact rfl; exact rfl; (first | (apply EvW.move; exact rfl) | (apply EvW.arN; exact rfl; exact rfl; exact rfl; refine i64_in ?_ ?_ <;> omega) | (apply EvW.notT; exact rfl)))
          | refine WC.region ?_ | refine WL.nil ?_ | refine WE.next ?_ | refine WC.skip ?_ | refine WE.out ?_ | refine WC.condF rfl ?_
        exact WE.again (s := (i, b, o, mp, r, bv, wv, cv, pgs, m, cs)) ((i + 1, b, o, mp, r, bv, wv, cv, pgs, m, cs)) ⟨by simp only []; omega, hI2⟩ (by (focus ((repeat (first | exact trivial | (refine ⟨rfl, ?_⟩))); done))) (fun _ h => (by (try simp only []); exact h.keep (by (focus ((repeat (first | exact TakeL.nil | apply TakeL.cons | exact Take.head | apply Take.tail)); done))))) (by (try simp only []); omega)
    by_cases hk3 : x.k = 3
    · have hI2 := hIn
      repeat first
        | (apply WL.q; exact rfl; exact rfl; exact rfl; (first | (apply EvW.move; exact rfl) | (apply EvW.assign; exact rfl) | (apply EvW.fieldAddr0; exact rfl; exact FldC.eq) | (apply EvW.load; exact rfl; exact ScalC.eq; (focus ((repeat (first | exact Take.head | apply Take.tail)); done)); exact rfl) | (apply EvW.cmpT; exact rfl; exact rfl; exact rfl; omega) | (apply EvW.cmpF; exact rfl; exact rfl; exact rfl; omega)))
        | refine WC.seq ?_ | refine WC.region ?_ | refine WL.nil ?_ | refine WE.next ?_ | refine WC.block ?_ | refine WC.condT rfl ?_ | refine WC.condF rfl ?_ | (apply WL.store; exact rfl; exact rfl; (first | assumption | exact rfl); exact SzC.eq; (first | assumption | exact rfl); (focus ((repeat (first | apply UpdC.head | apply UpdC.tail | exact SetMany.nil | apply SetMany.cons | apply SetMany.succ)); done)))
      try refine WL.wanted rfl rfl rfl ?_
      apply WL.callA ([.blk b (Value.map (o) :: i64 (m).ar :: i64 (m).ac :: Value.bool (m).off :: ((m).pages.map str ++ (m).worn.map i64)).toArray 41])
      · exact rfl
      · exact rfl
      · exact fun w => Try.call12 _ w
      · (focus ((repeat (first | exact TakeL.nil | apply TakeL.cons | exact Take.head | apply Take.tail)); done))
      · exact fun w1 S1 hS1 hs1 ho1 => read_spec b o m i x.pg x.pos x.n w1 S1 hS1 hm
      rintro _ _ ⟨rfl, rfl⟩
      first | refine WL.app4 ?_ | refine WL.app3 ?_ | refine WL.app2 ?_ | refine WL.app1 ?_ | refine WL.app0 ?_ | skip
      repeat first
        | (apply WL.q; exact rfl; exact rfl; exact rfl; (first | (apply EvW.move; exact rfl) | (apply EvW.assign; exact rfl) | (apply EvW.fieldAddr0; exact rfl; exact FldC.eq) | (apply EvW.load; exact rfl; exact ScalC.eq; (focus ((repeat (first | exact Take.head | apply Take.tail)); done)); exact rfl) | (apply EvW.extract; exact rfl; exact rfl)))
        | refine WC.seq ?_ | refine WC.region ?_ | refine WL.nil ?_ | refine WE.next ?_
      try refine WL.wanted rfl rfl rfl ?_
      apply WL.callA ([.blk r #[bv, wv, cv, i64 (m).ar, i64 (m).ac, .bool (m).off] 59, .own 31 1 bv 24 ((pgs).map pgV), sepL ((pgs).map (pgH 5))])
      · exact rfl
      · exact rfl
      · exact fun w => Try.call22 _ w
      · (focus ((repeat (first | exact TakeL.nil | apply TakeL.cons | exact Take.head | apply Take.tail)); done))
      · exact fun w1 S1 hS1 hs1 ho1 => rread_spec r bv wv cv pgs m i x.pg x.pos x.n w1 S1 hS1 hm hP
      rintro _ _ ⟨rfl, rfl⟩
      first | refine WL.app4 ?_ | refine WL.app3 ?_ | refine WL.app2 ?_ | refine WL.app1 ?_ | refine WL.app0 ?_ | skip
      repeat first
        | (apply WL.q; exact rfl; exact rfl; exact rfl; (first | (apply EvW.move; exact rfl) | (apply EvW.assign; exact rfl) | (apply EvW.fieldAddr0; exact rfl; exact FldC.eq) | (apply EvW.load; exact rfl; exact ScalC.eq; (focus ((repeat (first | exact Take.head | apply Take.tail)); done)); exact rfl) | (apply EvW.extract; exact rfl; exact rfl) | (apply EvW.cmpF; exact rfl; exact rfl; exact rfl; omega) | (apply EvW.pickF; exact rfl; exact rfl) | (apply EvW.sneS; exact rfl; exact rfl)))
        | refine WC.seq ?_ | refine WC.region ?_ | refine WL.nil ?_ | refine WE.next ?_ | refine WC.skip ?_ | refine WE.out ?_ | refine WC.condF rfl ?_ | refine WL.wanted rfl rfl rfl ?_
      try refine WL.wanted rfl rfl rfl ?_
      apply WL.callA ([.blk b (Value.map (o) :: i64 (m).ar :: i64 (m).ac :: Value.bool (m).off :: ((m).pages.map str ++ (m).worn.map i64)).toArray 41, .blk r #[bv, wv, cv, i64 (m).ar, i64 (m).ac, .bool (m).off] 59, .own 31 1 bv 24 ((pgs).map pgV), sepL ((pgs).map (pgH 5)), .own 3 1 wv 24 ((m).worn.map i64)])
      · exact rfl
      · exact rfl
      · exact fun w => Try.call25 _ w
      · (focus ((repeat (first | exact TakeL.nil | apply TakeL.cons | exact Take.head | apply Take.tail)); done))
      · exact fun w1 S1 hS1 hs1 ho1 => told_spec b (o) r bv wv cv pgs (m) (i + 1) _ x.pg w1 S1 hS1 hI2.wf hI2.pages rfl
      rintro _ _ ⟨rfl, rfl⟩
      first | refine WL.app4 ?_ | refine WL.app3 ?_ | refine WL.app2 ?_ | refine WL.app1 ?_ | refine WL.app0 ?_ | skip
      repeat first
        | (apply WL.q; exact rfl; exact rfl; exact rfl; (first | (apply EvW.move; exact rfl) | (apply EvW.arN; exact rfl; exact rfl; exact rfl; refine i64_in ?_ ?_ <;> omega) | (apply EvW.notT; exact rfl)))
        | refine WC.region ?_ | refine WL.nil ?_ | refine WE.next ?_ | refine WC.skip ?_ | refine WE.out ?_ | refine WC.condF rfl ?_
      exact WE.again (s := (i, b, o, mp, r, bv, wv, cv, pgs, m, cs)) ((i + 1, b, o, mp, r, bv, wv, cv, pgs, m, cs)) ⟨by simp only []; omega, hI2⟩ (by (focus ((repeat (first | exact trivial | (refine ⟨rfl, ?_⟩))); done))) (fun _ h => (by (try simp only []); exact h.keep (by (focus ((repeat (first | exact TakeL.nil | apply TakeL.cons | exact Take.head | apply Take.tail)); done))))) (by (try simp only []); omega)
    by_cases hk4 : x.k = 4
    · repeat first
        | (apply WL.q; exact rfl; exact rfl; exact rfl; (first | (apply EvW.assign; exact rfl) | (apply EvW.fieldAddr0; exact rfl; exact FldC.eq) | (apply EvW.load; exact rfl; exact ScalC.eq; (focus ((repeat (first | exact Take.head | apply Take.tail)); done)); exact rfl) | (apply EvW.cmpT; exact rfl; exact rfl; exact rfl; omega) | (apply EvW.cmpF; exact rfl; exact rfl; exact rfl; omega)))
        | refine WC.seq ?_ | refine WC.region ?_ | refine WL.nil ?_ | refine WE.next ?_ | refine WC.block ?_ | refine WC.condT rfl ?_ | refine WC.condF rfl ?_ | (apply WL.store; exact rfl; exact rfl; (first | assumption | exact rfl); exact SzC.eq; (first | assumption | exact rfl); (focus ((repeat (first | apply UpdC.head | apply UpdC.tail | exact SetMany.nil | apply SetMany.cons | apply SetMany.succ)); done)))
      have hxc := hxo.cl
      try refine WL.wanted rfl rfl rfl ?_
      (apply WL.buildSlice; exact rfl; exact UndC.eq; exact SzC.eq; exact ZvC.eq; exact rfl; exact rfl; exact rfl; ((focus ((repeat (first | exact Flat.nil | (apply Flat.one; (first | exact rfl | assumption)) | (apply Flat.cons; exact rfl; exact rfl))); done))); exact rfl; exact rfl; intro c1)
      refine WL.toOwn (bl := c1) 0 2 .head rfl ?_
      repeat first
        | (apply WL.q; exact rfl; exact rfl; exact rfl; (first | (apply EvW.fieldAddr0; exact rfl; exact FldC.eq) | (apply EvW.load; exact rfl; exact ScalC.eq; (focus ((repeat (first | exact Take.head | apply Take.tail)); done)); exact rfl)))
      try refine WL.wanted rfl rfl rfl ?_
      (apply WL.append; exact rfl; exact rfl; exact rfl; exact UndC.eq; exact SzC.eq; exact ByC.eq; exact ZvC.eq; exact rfl; (first | exact notInt_sl UndC.eq | exact notInt_st UndC.eq); exact rfl; (focus ((repeat (first | exact Take.head | apply Take.tail)); done)))
      · exact (adds_row hxo.cuts (cuts_one _))
      · (simp; omega)
      intro ov
      refine WL.ownEq (cs' := x.cs.flatMap cutC) (len' := x.cs.length) .head (by simp) (by simp) ?_
      repeat first
        | (apply WL.q; exact rfl; exact rfl; exact rfl; (first | (apply EvW.move; exact rfl) | (apply EvW.assign; exact rfl) | (apply EvW.nilPtr; exact rfl) | (apply EvW.fieldAddr0; exact rfl; exact FldC.eq)))
        | refine WC.seq ?_ | refine WC.region ?_ | refine WL.nil ?_ | refine WE.next ?_
      try refine WL.wanted rfl rfl rfl ?_
      apply WL.callA ([.blk b (Value.map (o) :: i64 (m).ar :: i64 (m).ac :: Value.bool (m).off :: ((m).pages.map str ++ (m).worn.map i64)).toArray 41])
      · exact rfl
      · exact rfl
      · exact fun w => Try.call16 _ w
      · (focus ((repeat (first | exact TakeL.nil | apply TakeL.cons | exact Take.head | apply Take.tail)); done))
      · exact fun w1 S1 hS1 hs1 ho1 => arm_spec b o m.ar m.ac m.off (m.pages.map str ++ m.worn.map i64) 41 ov x.cs w1 S1 hS1 (ho1 (.own 43 2 ov x.cs.length ((x.cs).flatMap cutC)) _ (by (focus ((repeat (first | exact Take.head | apply Take.tail)); done)))).own (by omega)
      rintro _ _ ⟨mb, rfl, rfl⟩
      first | refine WL.app4 ?_ | refine WL.app3 ?_ | refine WL.app2 ?_ | refine WL.app1 ?_ | refine WL.app0 ?_ | skip
      repeat first
        | (apply WL.q; exact rfl; exact rfl; exact rfl; (first | (apply EvW.move; exact rfl) | (apply EvW.fieldAddr0; exact rfl; exact FldC.eq) | (apply EvW.load; exact rfl; exact ScalC.eq; (focus ((repeat (first | exact Take.head | apply Take.tail)); done)); exact rfl)))
        | refine WC.seq ?_ | refine WC.region ?_ | refine WL.nil ?_ | refine WE.next ?_
      try refine WL.wanted rfl rfl rfl ?_
      apply WL.callA ([.blk r #[bv, wv, cv, i64 (m).ar, i64 (m).ac, .bool (m).off] 59])
      · exact rfl
      · exact rfl
      · exact fun w => Try.call23 _ w
      · (focus ((repeat (first | exact TakeL.nil | apply TakeL.cons | exact Take.head | apply Take.tail)); done))
      · exact fun w1 S1 hS1 hs1 ho1 => rarm_spec r bv wv cv x.cv m x.cs w1 S1 hS1 (hs1 _ hxo.cuts) (by omega)
      rintro _ _ ⟨rfl, cv2, rfl⟩
      first | refine WL.app4 ?_ | refine WL.app3 ?_ | refine WL.app2 ?_ | refine WL.app1 ?_ | refine WL.app0 ?_ | skip
      have hI2 := hIn.arm mb hxc
      repeat first
        | (apply WL.q; exact rfl; exact rfl; exact rfl; (first | (apply EvW.move; exact rfl) | (apply EvW.lenOwn; exact rfl; exact UndC.eq; (focus ((repeat (first | exact Take.head | apply Take.tail)); done)))))
        | refine WC.seq ?_ | refine WC.region ?_ | refine WL.nil ?_ | refine WE.next ?_ | refine WC.block ?_
      refine WC.loopK (σ := Nat) [3, 4, 6, 13, 23, 24, 25, 141] (fun s => [(142, i64 s)]) (fun s => [.own 43 2 ov x.cs.length ((ovw x.cs s).flatMap cutC), .blk z #[i64 (x).k, i64 (x).pg, i64 (x).pos, i64 (x).n, (x).pv, (x).cv] 51, .blk b (Value.map (some mb) :: i64 ({ m with ar := 0 }).ar :: i64 ({ m with ar := 0 }).ac :: Value.bool ({ m with ar := 0 }).off :: (({ m with ar := 0 }).pages.map str ++ ({ m with ar := 0 }).worn.map i64)).toArray 41, .omap (some mb) (armM x.cs), .blk r #[bv, wv, cv2, i64 ({ m with ar := 0 }).ar, i64 ({ m with ar := 0 }).ac, .bool ({ m with ar := 0 }).off] 59, .own 31 1 bv 24 ((pgs).map pgV), sepL ((pgs).map (pgH 5)), .own 3 1 wv 24 (({ m with ar := 0 }).worn.map i64), .own 43 2 cv2 (x.cs).length ((x.cs).flatMap cutC)]) (fun s => s ≤ x.cs.length) (fun s => x.cs.length - s) 0 (by (focus ((repeat (first | exact Pick.nil | (apply Pick.cons; exact rfl))); done))) (by (focus ((repeat (first | exact trivial | (refine ⟨rfl, ?_⟩))); done))) (fun _ h => h.keep (by (focus ((repeat (first | exact TakeL.nil | apply TakeL.cons | exact Take.head | apply Take.tail)); done)))) (Nat.zero_le _) (fun s hs => ?_)
      obtain ⟨j, rfl⟩ : ∃ q, q = s := ⟨s, rfl⟩
      simp only [List.cons_append, List.nil_append] at hs ⊢
      by_cases hj : (j : Int) < x.cs.length
      · have hoa := ovw_at (cs := x.cs) (i := j) (by omega)
        have hos := ovw_set (cs := x.cs) (i := j) (by omega)
        have hol := ovw_length x.cs (i := j) (by omega)
        have hxcu := hxo.cuts
        repeat first
          | (apply WL.q; exact rfl; exact rfl; exact rfl; (first | (apply EvW.move; exact rfl) | (apply EvW.assign; exact rfl) | (apply EvW.cmpT; exact rfl; exact rfl; exact rfl; omega)))
          | refine WC.seq ?_ | refine WC.region ?_ | refine WL.nil ?_ | refine WE.next ?_ | refine WC.block ?_ | refine WC.skip ?_ | refine WC.condT rfl ?_
        repeat refine WC.seq ?_
        refine WC.keep (xs := [.own 43 2 ov x.cs.length ((ovw x.cs j).flatMap cutC), .blk z #[i64 (x).k, i64 (x).pg, i64 (x).pos, i64 (x).n, (x).pv, (x).cv] 51, .blk b (Value.map (some mb) :: i64 ({ m with ar := 0 }).ar :: i64 ({ m with ar := 0 }).ac :: Value.bool ({ m with ar := 0 }).off :: (({ m with ar := 0 }).pages.map str ++ ({ m with ar := 0 }).worn.map i64)).toArray 41, .omap (some mb) (armM x.cs), .blk r #[bv, wv, cv2, i64 ({ m with ar := 0 }).ar, i64 ({ m with ar := 0 }).ac, .bool ({ m with ar := 0 }).off] 59, .own 31 1 bv 24 ((pgs).map pgV), sepL ((pgs).map (pgH 5)), .own 3 1 wv 24 (({ m with ar := 0 }).worn.map i64), .own 43 2 cv2 (x.cs).length ((x.cs).flatMap cutC)]) (by (focus ((repeat (first | exact TakeL.nil | apply TakeL.cons | exact Take.head | apply Take.tail)); done))) ?_
        apply WC.par _ (fun c : Ch => [.own 43 2 ov x.cs.length ((ovw x.cs j).flatMap cutC), .blk z #[i64 (x).k, i64 (x).pg, i64 (x).pos, i64 (x).n, (x).pv, (x).cv] 51, .blk b (Value.map (some mb) :: i64 ({ m with ar := 0 }).ar :: i64 ({ m with ar := 0 }).ac :: Value.bool ({ m with ar := 0 }).off :: (({ m with ar := 0 }).pages.map str ++ ({ m with ar := 0 }).worn.map i64)).toArray 41, .omap (some mb) (armM x.cs), .blk r #[bv, wv, cv2, i64 ({ m with ar := 0 }).ar, i64 ({ m with ar := 0 }).ac, .bool ({ m with ar := 0 }).off] 59, .own 31 1 bv 24 ((pgs).map pgV), sepL ((pgs).map (pgH 5)), .own 3 1 wv 24 (({ m with ar := 0 }).worn.map i64), .own 43 2 cv2 (x.cs).length ((x.cs).flatMap cutC)]) [none, none, none, none, none, none, none, none, none] [none, none, none, none, none, none, none, none, none] [] Try.mixed
        · (focus ((repeat (first | exact Restr.nil | (apply Restr.keep; exact rfl; exact rfl) | (apply Restr.drop; exact rfl))); done))
        · intro c; exact (by (focus ((repeat (first | exact SelT.nil | apply SelT.yes | apply SelT.no)); done)))
        · exact rfl
        · decide +kernel
        · decide +kernel
        · intro c
          (apply Par.quiet _ [true, true, true, true, true, true, true, true, true]; exact rfl; decide +kernel; exact rfl; intro R; refine ⟨_, (by (focus ((repeat (first | exact SelT.nil | apply SelT.yes | apply SelT.no)); done))), ?_⟩;
               (first | (apply EvW.move; exact rfl)))
          (apply Par.quiet _ [true, true, true, true, true, true, true, true, true]; exact rfl; decide +kernel; exact rfl; intro R; refine ⟨_, (by (focus ((repeat (first | exact SelT.nil | apply SelT.yes | apply SelT.no)); done))), ?_⟩;
               (first | (apply EvW.move; exact rfl)))
          (apply Par.quiet _ [true, true, true, true, true, true, true, true, true]; exact rfl; decide +kernel; exact rfl; intro R; refine ⟨_, (by (focus ((repeat (first | exact SelT.nil | apply SelT.yes | apply SelT.no)); done))), ?_⟩;
               (first | (apply EvW.idxOwn; exact rfl; exact rfl; exact UndC.eq; exact SzC.eq; (focus ((repeat (first | exact Take.head | apply Take.tail)); done)); omega; omega)))
          apply Par.quiet _ [true, true, true, true, true, true, true, true, true]
          · exact rfl
          · decide +kernel
          · exact rfl
          · intro R
            refine ⟨_, (by (focus ((repeat (first | exact SelT.nil | apply SelT.yes | apply SelT.no)); done))), ?_⟩
            (apply EvW.ldElemOwn (xs := ovw x.cs j) (z := (default : Cut)) (f := cutC); exact rfl; exact AggC.eq; exact SzC.eq; exact rfl; exact fun _ => rfl; (focus ((repeat (first | exact Take.head | apply Take.tail)); done)); (rw [hol]; omega))
          (apply Par.quiet _ [true, true, true, true, true, true, true, true, true]; exact rfl; decide +kernel; exact rfl; intro R; refine ⟨_, (by (focus ((repeat (first | exact SelT.nil | apply SelT.yes | apply SelT.no)); done))), ?_⟩;
               (first | (apply EvW.fieldAddr0; exact rfl; exact FldC.eq)))
          (apply Par.quiet _ [true, true, true, true, true, true, true, true, true]; exact rfl; decide +kernel; exact rfl; intro R; refine ⟨_, (by (focus ((repeat (first | exact SelT.nil | apply SelT.yes | apply SelT.no)); done))), ?_⟩;
               (first | (apply EvW.load; exact rfl; exact ScalC.eq; (focus ((repeat (first | exact Take.head | apply Take.tail)); done)); exact rfl)))
          (apply Par.quiet _ [true, true, true, true, true, true, true, true, true]; exact rfl; decide +kernel; exact rfl; intro R; refine ⟨_, (by (focus ((repeat (first | exact SelT.nil | apply SelT.yes | apply SelT.no)); done))), ?_⟩;
               (first | (apply EvW.move; exact rfl)))
          (apply Par.quiet _ [true, true, true, true, true, true, true, true, true]; exact rfl; decide +kernel; exact rfl; intro R; refine ⟨_, (by (focus ((repeat (first | exact SelT.nil | apply SelT.yes | apply SelT.no)); done))), ?_⟩;
               (first | (apply EvW.idxRow; exact rfl; exact rfl; exact UndC.eq; exact SzC.eq; assumption; omega; omega)))
          apply Par.quiet _ [true, true, true, true, true, true, true, true, true]
          · exact rfl
          · decide +kernel
          · exact rfl
          · intro R
            refine ⟨_, (by (focus ((repeat (first | exact SelT.nil | apply SelT.yes | apply SelT.no)); done))), ?_⟩
            (apply EvW.ldElem (xs := x.cs) (z := (default : Cut)) (f := cutC); exact rfl; exact AggC.eq; exact SzC.eq; exact rfl; exact fun _ => rfl; exact hxcu; omega)
          apply Par.quiet _ [true, true, true, true, true, true, true, true, true]
          · exact rfl
          · decide +kernel
          · exact rfl
          · intro R
            refine ⟨_, (by (focus ((repeat (first | exact SelT.nil | apply SelT.yes | apply SelT.no)); done))), ?_⟩
            (apply EvW.neAggS (offs := [0, 1]) (l := cutC (x.cs.getD j default)); (rw [← hoa]; exact rfl); exact rfl; kernel_rfl; exact rfl)
          exact Par.nil
        · repeat (first | exact AllN.nil | (apply AllN.cons; (intro c x; (repeat (first | exact IndA.nil | (apply IndA.skip; decide +kernel) | apply IndA.same))))) 
        · repeat (first | exact AllN.nil | (apply AllN.cons; (intro c x; (repeat (first | exact IndT.nil | (apply IndT.skip; decide +kernel) | apply IndT.same))))) 
        · exact fun _ => rfl
        intro c
        refine ⟨_, (by (focus ((repeat (first | exact SelT.nil | apply SelT.yes | apply SelT.no)); done))), ?_⟩
        apply WE.writ
        · (focus ((repeat (first | exact Writ.nil | apply Writ.some | apply Writ.none)); done))
        repeat first
          | (apply WL.q; exact rfl; exact rfl; exact rfl; (first | (apply EvW.move; exact rfl) | (apply EvW.build; exact PlC.eq; exact ZvC.eq; exact rfl; exact rfl; (focus ((repeat (first | exact Fills.nil | (apply Fills.cons; exact rfl; (first | assumption | exact rfl); exact rfl) | exact SetMany.nil | apply SetMany.cons | apply SetMany.succ)); done))) | (apply EvW.idxOwn; exact rfl; exact rfl; exact UndC.eq; exact SzC.eq; (focus ((repeat (first | exact Take.head | apply Take.tail)); done)); omega; omega)))
          | refine WC.region ?_ | refine WE.next ?_ | refine WC.skip ?_ | refine WC.condF rfl ?_
        (apply WL.stFld ((⟨0, 7⟩ : Cut)); exact rfl; exact rfl; exact rfl; exact SzC.eq; exact rfl; exact rfl; (focus ((repeat (first | exact Take.head | apply Take.tail)); done)); exact fun _ => rfl; (rw [hol]; omega); rfl; exact rfl; exact Take.head)
        rw [show ((j : Nat) : Int).toNat = j from rfl, hos]
        repeat first
          | (apply WL.q; exact rfl; exact rfl; exact rfl; (first | (apply EvW.move; exact rfl) | (apply EvW.arN; exact rfl; exact rfl; exact rfl; refine i64_in ?_ ?_ <;> omega)))
          | refine WC.region ?_ | refine WL.nil ?_ | refine WE.next ?_ | refine WE.out ?_
        exact WE.again (s := j) ((j + 1)) (by omega) (by (focus ((repeat (first | exact trivial | (refine ⟨rfl, ?_⟩))); done))) (fun _ h => (by (try simp only []); exact h.keep (by (focus ((repeat (first | exact TakeL.nil | apply TakeL.cons | exact Take.head | apply Take.tail)); done))))) (by (try simp only []); omega)
      · obtain rfl : j = x.cs.length := by omega
        repeat first
          | (apply WL.q; exact rfl; exact rfl; exact rfl; (first | (apply EvW.move; exact rfl) | (apply EvW.fieldAddr0; exact rfl; exact FldC.eq) | (apply EvW.load; exact rfl; exact ScalC.eq; (focus ((repeat (first | exact Take.head | apply Take.tail)); done)); exact rfl) | (apply EvW.cmpF; exact rfl; exact rfl; exact rfl; omega)))
          | refine WC.seq ?_ | refine WC.region ?_ | refine WL.nil ?_ | refine WE.next ?_ | refine WC.exit ?_ | refine WE.pass ?_ | refine WE.hit ?_ | refine WE.out ?_ | refine WC.condF rfl ?_
        try refine WL.wanted rfl rfl rfl ?_
        apply WL.callA ([.blk b (Value.map (some mb) :: i64 ({ m with ar := 0 }).ar :: i64 ({ m with ar := 0 }).ac :: Value.bool ({ m with ar := 0 }).off :: (({ m with ar := 0 }).pages.map str ++ ({ m with ar := 0 }).worn.map i64)).toArray 41, .blk r #[bv, wv, cv2, i64 ({ m with ar := 0 }).ar, i64 ({ m with ar := 0 }).ac, .bool ({ m with ar := 0 }).off] 59, .own 31 1 bv 24 ((pgs).map pgV), sepL ((pgs).map (pgH 5)), .own 3 1 wv 24 (({ m with ar := 0 }).worn.map i64)])
        · exact rfl
        · exact rfl
        · exact fun w => Try.call25 _ w
        · (focus ((repeat (first | exact TakeL.nil | apply TakeL.cons | exact Take.head | apply Take.tail)); done))
        · exact fun w1 S1 hS1 hs1 ho1 => told_spec b (some mb) r bv wv cv2 pgs ({ m with ar := 0 }) (i + 1) _ x.pg w1 S1 hS1 hI2.wf hI2.pages rfl
        rintro _ _ ⟨rfl, rfl⟩
        first | refine WL.app4 ?_ | refine WL.app3 ?_ | refine WL.app2 ?_ | refine WL.app1 ?_ | refine WL.app0 ?_ | skip
        repeat first
          | (apply WL.q; exact rfl; exact rfl; exact rfl; (first | (apply EvW.move; exact rfl) | (apply EvW.arN; exact rfl; exact rfl; exact rfl; refine i64_in ?_ ?_ <;> omega) | (apply EvW.notT; exact rfl)))
          | refine WC.region ?_ | refine WL.nil ?_ | refine WE.next ?_ | refine WC.skip ?_ | refine WE.out ?_ | refine WC.condF rfl ?_
        exact WE.again (s := (i, b, o, mp, r, bv, wv, cv, pgs, m, cs)) ((i + 1, b, some mb, armM x.cs, r, bv, wv, cv2, pgs, { m with ar := 0 }, x.cs)) ⟨by simp only []; omega, hI2⟩ (by (focus ((repeat (first | exact trivial | (refine ⟨rfl, ?_⟩))); done))) (fun _ h => (by (try simp only []); exact h.keep (by (focus ((repeat (first | exact TakeL.nil | apply TakeL.cons | exact Take.head | apply Take.tail)); done))))) (by (try simp only []); omega)
    by_cases hk5 : x.k = 5
    · repeat first
        | (apply WL.q; exact rfl; exact rfl; exact rfl; (first | (apply EvW.move; exact rfl) | (apply EvW.assign; exact rfl) | (apply EvW.fieldAddr0; exact rfl; exact FldC.eq) | (apply EvW.load; exact rfl; exact ScalC.eq; (focus ((repeat (first | exact Take.head | apply Take.tail)); done)); exact rfl) | (apply EvW.cmpT; exact rfl; exact rfl; exact rfl; omega) | (apply EvW.cmpF; exact rfl; exact rfl; exact rfl; omega)))
        | refine WC.seq ?_ | refine WC.region ?_ | refine WL.nil ?_ | refine WE.next ?_ | refine WC.block ?_ | refine WC.condT rfl ?_ | refine WC.condF rfl ?_ | (apply WL.store; exact rfl; exact rfl; (first | assumption | exact rfl); exact SzC.eq; (first | assumption | exact rfl); (focus ((repeat (first | apply UpdC.head | apply UpdC.tail | exact SetMany.nil | apply SetMany.cons | apply SetMany.succ)); done)))
      try refine WL.wanted rfl rfl rfl ?_
      apply WL.callA ([.blk b (Value.map (o) :: i64 (m).ar :: i64 (m).ac :: Value.bool (m).off :: ((m).pages.map str ++ (m).worn.map i64)).toArray 41])
      · exact rfl
      · exact rfl
      · exact fun w => Try.call14 _ w
      · (focus ((repeat (first | exact TakeL.nil | apply TakeL.cons | exact Take.head | apply Take.tail)); done))
      · exact fun w1 S1 hS1 hs1 ho1 => again_spec b o m i w1 S1 hS1 hm
      rintro _ _ ⟨b2, rfl, rfl⟩
      first | refine WL.app4 ?_ | refine WL.app3 ?_ | refine WL.app2 ?_ | refine WL.app1 ?_ | refine WL.app0 ?_ | skip
      refine WL.omapNil ?_
      repeat first
        | (apply WL.q; exact rfl; exact rfl; exact rfl; (first | (apply EvW.move; exact rfl)))
      try refine WL.wanted rfl rfl rfl ?_
      apply WL.callA ([.blk r #[bv, wv, cv, i64 (m).ar, i64 (m).ac, .bool (m).off] 59, .own 31 1 bv 24 ((pgs).map pgV), sepL ((pgs).map (pgH 5)), .own 3 1 wv 24 ((m).worn.map i64)])
      · exact rfl
      · exact rfl
      · exact fun w => Try.call24 _ w
      · (focus ((repeat (first | exact TakeL.nil | apply TakeL.cons | exact Take.head | apply Take.tail)); done))
      · exact fun w1 S1 hS1 hs1 ho1 => ragain_spec r bv wv cv pgs m i w1 S1 hS1 hm hP
      rintro _ _ ⟨r2, bv2, wv2, pgs2, rfl, rfl, hP2⟩
      first | refine WL.app4 ?_ | refine WL.app3 ?_ | refine WL.app2 ?_ | refine WL.app1 ?_ | refine WL.app0 ?_ | skip
      have hI2 := hIn.again hP2
      repeat first
        | (apply WL.q; exact rfl; exact rfl; exact rfl; (first | (apply EvW.assign; exact rfl)))
        | refine WC.seq ?_ | refine WL.nil ?_ | refine WE.next ?_
      repeat refine WC.seq ?_
      refine WC.keep (xs := [.blk z #[i64 (x).k, i64 (x).pg, i64 (x).pos, i64 (x).n, (x).pv, (x).cv] 51, .blk b (Value.map (o) :: i64 (m).ar :: i64 (m).ac :: Value.bool (m).off :: ((m).pages.map str ++ (m).worn.map i64)).toArray 41, .blk b2 (Value.map (none) :: i64 (m.again).ar :: i64 (m.again).ac :: Value.bool (m.again).off :: ((m.again).pages.map str ++ (m.again).worn.map i64)).toArray 41, .omap none [], .blk r2 #[bv2, wv2, .slice none 0 0, i64 (m.again).ar, i64 (m.again).ac, .bool (m.again).off] 59, .own 31 1 bv2 24 ((pgs2).map pgV), sepL ((pgs2).map (pgH 5)), .own 3 1 wv2 24 ((m.again).worn.map i64), .own 43 2 (.slice none 0 0) 0 []]) (by (focus ((repeat (first | exact TakeL.nil | apply TakeL.cons | exact Take.head | apply Take.tail)); done))) ?_
      apply WC.par _ (fun c : Ch => [.blk z #[i64 (x).k, i64 (x).pg, i64 (x).pos, i64 (x).n, (x).pv, (x).cv] 51, .blk b (Value.map (o) :: i64 (m).ar :: i64 (m).ac :: Value.bool (m).off :: ((m).pages.map str ++ (m).worn.map i64)).toArray 41, .blk b (Value.map (o) :: i64 (m).ar :: i64 (m).ac :: Value.bool (m).off :: ((m).pages.map str ++ (m).worn.map i64)).toArray 41, .blk b2 (Value.map (none) :: i64 (m.again).ar :: i64 (m.again).ac :: Value.bool (m.again).off :: ((m.again).pages.map str ++ (m.again).worn.map i64)).toArray 41, .blk b2 (Value.map (none) :: i64 (m.again).ar :: i64 (m.again).ac :: Value.bool (m.again).off :: ((m.again).pages.map str ++ (m.again).worn.map i64)).toArray 41, .omap none [], .blk r2 #[bv2, wv2, .slice none 0 0, i64 (m.again).ar, i64 (m.again).ac, .bool (m.again).off] 59, .own 31 1 bv2 24 ((pgs2).map pgV), sepL ((pgs2).map (pgH 5)), .own 3 1 wv2 24 ((m.again).worn.map i64), .own 43 2 (.slice none 0 0) 0 []]) [none, none, some 6, none, some 10, none, none, none, none, none, none] [none, some 6, none, some 10, none, none, none, none, none, none, none] [] Try.mixed
      · (focus ((repeat (first | exact Restr.nil | (apply Restr.keep; exact rfl; exact rfl) | (apply Restr.drop; exact rfl))); done))
      · intro c; exact (by (focus ((repeat (first | exact SelT.nil | apply SelT.yes | apply SelT.no)); done)))
      · exact rfl
      · decide +kernel
      · decide +kernel
      · intro c
        (apply Par.quiet _ [true, true, false, true, false, true, true, true, true, true, true]; exact rfl; decide +kernel; exact rfl; intro R; refine ⟨_, (by (focus ((repeat (first | exact SelT.nil | apply SelT.yes | apply SelT.no)); done))), ?_⟩;
             (first | (apply EvW.move; exact rfl)))
        (apply Par.quiet _ [true, true, false, true, false, true, true, true, true, true, true]; exact rfl; decide +kernel; exact rfl; intro R; refine ⟨_, (by (focus ((repeat (first | exact SelT.nil | apply SelT.yes | apply SelT.no)); done))), ?_⟩;
             (first | (apply EvW.peqN; exact rfl; exact rfl; exact UndC.eq)))
        (apply Par.quiet _ [true, true, false, true, false, true, true, true, true, true, true]; exact rfl; decide +kernel; exact rfl; intro R; refine ⟨_, (by (focus ((repeat (first | exact SelT.nil | apply SelT.yes | apply SelT.no)); done))), ?_⟩;
             (first | (apply EvW.move; exact rfl)))
        first
          | (apply Par.skip; exact rfl; decide +kernel; exact rfl)
          | (apply Par.quiet _ [true, true, false, true, false, true, true, true, true, true, true]; exact rfl; decide +kernel; exact rfl; intro R; refine ⟨_, (by (focus ((repeat (first | exact SelT.nil | apply SelT.yes | apply SelT.no)); done))), ?_⟩;
             (first | (apply EvW.move; exact rfl)))
        first
          | (apply Par.skip; exact rfl; decide +kernel; exact rfl)
          | (apply Par.quiet _ [true, true, false, true, false, true, true, true, true, true, true]; exact rfl; decide +kernel; exact rfl; intro R; refine ⟨_, (by (focus ((repeat (first | exact SelT.nil | apply SelT.yes | apply SelT.no)); done))), ?_⟩;
             (first | (apply EvW.fieldAddr0; exact rfl; exact FldC.eq)))
        first
          | (apply Par.skip; exact rfl; decide +kernel; exact rfl)
          | (apply Par.quiet _ [true, true, false, true, false, true, true, true, true, true, true]; exact rfl; decide +kernel; exact rfl; intro R; refine ⟨_, (by (focus ((repeat (first | exact SelT.nil | apply SelT.yes | apply SelT.no)); done))), ?_⟩;
             (first | (apply EvW.load; exact rfl; exact ScalC.eq; (focus ((repeat (first | exact Take.head | apply Take.tail)); done)); exact rfl)))
        apply Par.eff _ [false, true, false, false, false, false, false, false, false, false, false] [false, false, true, false, false, false, false, false, false, false, false] [true, false, false, true, false, true, true, true, true, true, true]
        · exact rfl
        · exact rfl
        · decide +kernel
        · intro R
          refine ⟨_, _, _, (by (focus ((repeat (first | exact SelT.nil | apply SelT.yes | apply SelT.no)); done))), (by (focus ((repeat (first | exact SelT.nil | apply SelT.yes | apply SelT.no)); done))), (by (focus ((repeat (first | exact SelT.nil | apply SelT.yes | apply SelT.no)); done))), ?_⟩
          apply EffW.callA ([.blk b (Value.map (o) :: i64 (m).ar :: i64 (m).ac :: Value.bool (m).off :: ((m).pages.map str ++ (m).worn.map i64)).toArray 41])
          · exact rfl
          · exact fun w => Try.call13 _ w
          · (focus ((repeat (first | exact TakeL.nil | apply TakeL.cons | exact Take.head | apply Take.tail)); done))
          · exact fun w1 S1 hS1 hs1 ho1 => bareOf_spec b o m i x.pg w1 S1 hS1 hm
          · exact fun _ _ h => h
          · exact fun _ h => TakeT.st (by (focus ((repeat (first | exact TakeT.tail | apply TakeT.cons | exact Take.head | apply Take.tail | apply TakeT.drop)); done))) h
        first
          | (apply Par.skip; exact rfl; decide +kernel; exact rfl)
          | (apply Par.quiet _ [true, false, false, true, false, true, true, true, true, true, true]; exact rfl; decide +kernel; exact rfl; intro R; refine ⟨_, (by (focus ((repeat (first | exact SelT.nil | apply SelT.yes | apply SelT.no)); done))), ?_⟩;
             (first | (apply EvW.move; exact rfl)))
        first
          | (apply Par.skip; exact rfl; decide +kernel; exact rfl)
          | (apply Par.quiet _ [true, false, false, true, false, true, true, true, true, true, true]; exact rfl; decide +kernel; exact rfl; intro R; refine ⟨_, (by (focus ((repeat (first | exact SelT.nil | apply SelT.yes | apply SelT.no)); done))), ?_⟩;
             (first | (apply EvW.fieldAddr0; exact rfl; exact FldC.eq)))
        first
          | (apply Par.skip; exact rfl; decide +kernel; exact rfl)
          | (apply Par.quiet _ [true, false, false, true, false, true, true, true, true, true, true]; exact rfl; decide +kernel; exact rfl; intro R; refine ⟨_, (by (focus ((repeat (first | exact SelT.nil | apply SelT.yes | apply SelT.no)); done))), ?_⟩;
             (first | (apply EvW.load; exact rfl; exact ScalC.eq; (focus ((repeat (first | exact Take.head | apply Take.tail)); done)); exact rfl)))
        apply Par.eff _ [false, false, false, true, false, false, false, false, false, false, false] [false, false, false, false, true, false, false, false, false, false, false] [true, false, true, false, false, true, true, true, true, true, true]
        · exact rfl
        · exact rfl
        · decide +kernel
        · intro R
          refine ⟨_, _, _, (by (focus ((repeat (first | exact SelT.nil | apply SelT.yes | apply SelT.no)); done))), (by (focus ((repeat (first | exact SelT.nil | apply SelT.yes | apply SelT.no)); done))), (by (focus ((repeat (first | exact SelT.nil | apply SelT.yes | apply SelT.no)); done))), ?_⟩
          apply EffW.callA ([.blk b2 (Value.map (none) :: i64 (m.again).ar :: i64 (m.again).ac :: Value.bool (m.again).off :: ((m.again).pages.map str ++ (m.again).worn.map i64)).toArray 41])
          · exact rfl
          · exact fun w => Try.call13 _ w
          · (focus ((repeat (first | exact TakeL.nil | apply TakeL.cons | exact Take.head | apply Take.tail)); done))
          · exact fun w1 S1 hS1 hs1 ho1 => (by have h := bareOf_spec b2 none m.again (i + 1) x.pg w1 S1 hS1 hI2.wf; rw [show m.again.bare x.pg = m.bare x.pg from rfl] at h; exact h)
          · exact fun _ _ h => h
          · exact fun _ h => TakeT.st (by (focus ((repeat (first | exact TakeT.tail | apply TakeT.cons | exact Take.head | apply Take.tail | apply TakeT.drop)); done))) h
        first
          | (apply Par.skip; exact rfl; decide +kernel; exact rfl)
          | (apply Par.quiet _ [true, false, true, false, true, true, true, true, true, true, true]; exact rfl; decide +kernel; exact rfl; intro R; refine ⟨_, (by (focus ((repeat (first | exact SelT.nil | apply SelT.yes | apply SelT.no)); done))), ?_⟩;
             (first | (apply EvW.cmpF; exact rfl; exact rfl; exact rfl; omega)))
        (apply Par.quiet _ [true, false, true, false, true, true, true, true, true, true, true]; exact rfl; decide +kernel; exact rfl; intro R; refine ⟨_, (by (focus ((repeat (first | exact SelT.nil | apply SelT.yes | apply SelT.no)); done))), ?_⟩;
             (first | (apply EvW.pickF; exact rfl; exact rfl)))
        exact Par.nil
      · repeat (first | exact AllN.nil | (apply AllN.cons; (intro c x; (repeat (first | exact IndA.nil | (apply IndA.skip; decide +kernel) | apply IndA.same))))) 
      · repeat (first | exact AllN.nil | (apply AllN.cons; (intro c x; (repeat (first | exact IndT.nil | (apply IndT.skip; decide +kernel) | apply IndT.same))))) 
      · exact fun _ => rfl
      intro c
      refine ⟨_, (by (focus ((repeat (first | exact SelT.nil | apply SelT.yes | apply SelT.no)); done))), ?_⟩
      apply WE.writ
      · (focus ((repeat (first | exact Writ.nil | apply Writ.some | apply Writ.none)); done))
      repeat first
        | (apply WL.q; exact rfl; exact rfl; exact rfl; (first | (apply EvW.move; exact rfl) | (apply EvW.fieldAddr0; exact rfl; exact FldC.eq) | (apply EvW.load; exact rfl; exact ScalC.eq; (focus ((repeat (first | exact Take.head | apply Take.tail)); done)); exact rfl)))
        | refine WC.seq ?_ | refine WC.region ?_ | refine WE.next ?_ | refine WC.skip ?_ | refine WE.out ?_ | refine WC.condF rfl ?_
      try refine WL.wanted rfl rfl rfl ?_
      apply WL.callA ([.blk b2 (Value.map (none) :: i64 (m.again).ar :: i64 (m.again).ac :: Value.bool (m.again).off :: ((m.again).pages.map str ++ (m.again).worn.map i64)).toArray 41, .blk r2 #[bv2, wv2, .slice none 0 0, i64 (m.again).ar, i64 (m.again).ac, .bool (m.again).off] 59, .own 31 1 bv2 24 ((pgs2).map pgV), sepL ((pgs2).map (pgH 5)), .own 3 1 wv2 24 ((m.again).worn.map i64)])
      · exact rfl
      · exact rfl
      · exact fun w => Try.call25 _ w
      · (focus ((repeat (first | exact TakeL.nil | apply TakeL.cons | exact Take.head | apply Take.tail)); done))
      · exact fun w1 S1 hS1 hs1 ho1 => told_spec b2 (none) r2 bv2 wv2 (.slice none 0 0) pgs2 (m.again) (i + 1) _ x.pg w1 S1 hS1 hI2.wf hI2.pages rfl
      rintro _ _ ⟨rfl, rfl⟩
      first | refine WL.app4 ?_ | refine WL.app3 ?_ | refine WL.app2 ?_ | refine WL.app1 ?_ | refine WL.app0 ?_ | skip
      repeat first
        | (apply WL.q; exact rfl; exact rfl; exact rfl; (first | (apply EvW.move; exact rfl) | (apply EvW.arN; exact rfl; exact rfl; exact rfl; refine i64_in ?_ ?_ <;> omega) | (apply EvW.notT; exact rfl)))
        | refine WC.region ?_ | refine WL.nil ?_ | refine WE.next ?_ | refine WC.skip ?_ | refine WE.out ?_ | refine WC.condF rfl ?_
      exact WE.again (s := (i, b, o, mp, r, bv, wv, cv, pgs, m, cs)) ((i + 1, b2, none, [], r2, bv2, wv2, .slice none 0 0, pgs2, m.again, [])) ⟨by simp only []; omega, hI2⟩ (by (focus ((repeat (first | exact trivial | (refine ⟨rfl, ?_⟩))); done))) (fun _ h => (by (try simp only []); exact h.keep (by (focus ((repeat (first | exact TakeL.nil | apply TakeL.cons | exact Take.head | apply Take.tail)); done))))) (by (try simp only []); omega)
    · have hI2 := hIn
      repeat first
        | (apply WL.q; exact rfl; exact rfl; exact rfl; (first | (apply EvW.move; exact rfl) | (apply EvW.assign; exact rfl) | (apply EvW.fieldAddr0; exact rfl; exact FldC.eq) | (apply EvW.load; exact rfl; exact ScalC.eq; (focus ((repeat (first | exact Take.head | apply Take.tail)); done)); exact rfl) | (apply EvW.cmpF; exact rfl; exact rfl; exact rfl; omega)))
        | refine WC.seq ?_ | refine WC.region ?_ | refine WL.nil ?_ | refine WE.next ?_ | refine WC.block ?_ | refine WC.skip ?_ | refine WE.out ?_ | refine WC.condF rfl ?_ | (apply WL.store; exact rfl; exact rfl; (first | assumption | exact rfl); exact SzC.eq; (first | assumption | exact rfl); (focus ((repeat (first | apply UpdC.head | apply UpdC.tail | exact SetMany.nil | apply SetMany.cons | apply SetMany.succ)); done)))
      try refine WL.wanted rfl rfl rfl ?_
      apply WL.callA ([.blk b (Value.map (o) :: i64 (m).ar :: i64 (m).ac :: Value.bool (m).off :: ((m).pages.map str ++ (m).worn.map i64)).toArray 41, .blk r #[bv, wv, cv, i64 (m).ar, i64 (m).ac, .bool (m).off] 59, .own 31 1 bv 24 ((pgs).map pgV), sepL ((pgs).map (pgH 5)), .own 3 1 wv 24 ((m).worn.map i64)])
      · exact rfl
      · exact rfl
      · exact fun w => Try.call25 _ w
      · (focus ((repeat (first | exact TakeL.nil | apply TakeL.cons | exact Take.head | apply Take.tail)); done))
      · exact fun w1 S1 hS1 hs1 ho1 => told_spec b (o) r bv wv cv pgs (m) (i + 1) _ x.pg w1 S1 hS1 hI2.wf hI2.pages rfl
      rintro _ _ ⟨rfl, rfl⟩
      first | refine WL.app4 ?_ | refine WL.app3 ?_ | refine WL.app2 ?_ | refine WL.app1 ?_ | refine WL.app0 ?_ | skip
      repeat first
        | (apply WL.q; exact rfl; exact rfl; exact rfl; (first | (apply EvW.move; exact rfl) | (apply EvW.arN; exact rfl; exact rfl; exact rfl; refine i64_in ?_ ?_ <;> omega) | (apply EvW.notT; exact rfl)))
        | refine WC.region ?_ | refine WL.nil ?_ | refine WE.next ?_ | refine WC.skip ?_ | refine WE.out ?_ | refine WC.condF rfl ?_
      exact WE.again (s := (i, b, o, mp, r, bv, wv, cv, pgs, m, cs)) ((i + 1, b, o, mp, r, bv, wv, cv, pgs, m, cs)) ⟨by simp only []; omega, hI2⟩ (by (focus ((repeat (first | exact trivial | (refine ⟨rfl, ?_⟩))); done))) (fun _ h => (by (try simp only []); exact h.keep (by (focus ((repeat (first | exact TakeL.nil | apply TakeL.cons | exact Take.head | apply Take.tail)); done))))) (by (try simp only []); omega)
  · repeat first
      | (apply WL.q; exact rfl; exact rfl; exact rfl; (first | (apply EvW.move; exact rfl) | (apply EvW.cmpF; exact rfl; exact rfl; exact rfl; omega)))
      | refine WC.seq ?_ | refine WC.region ?_ | refine WL.nil ?_ | refine WE.next ?_ | refine WC.exit ?_ | refine WE.pass ?_ | refine WE.hit ?_ | refine WC.condF rfl ?_
    try refine WL.wanted rfl rfl rfl ?_
    apply WL.callA ([.blk b (Value.map (o) :: i64 (m).ar :: i64 (m).ac :: Value.bool (m).off :: ((m).pages.map str ++ (m).worn.map i64)).toArray 41])
    · exact rfl
    · exact rfl
    · exact fun w => Try.call14 _ w
    · (focus ((repeat (first | exact TakeL.nil | apply TakeL.cons | exact Take.head | apply Take.tail)); done))
    · exact fun w1 S1 hS1 hs1 ho1 => again_spec b o m i w1 S1 hS1 hm
    rintro _ _ ⟨b2, rfl, rfl⟩
    first | refine WL.app4 ?_ | refine WL.app3 ?_ | refine WL.app2 ?_ | refine WL.app1 ?_ | refine WL.app0 ?_ | skip
    refine WL.omapNil ?_
    repeat first
      | (apply WL.q; exact rfl; exact rfl; exact rfl; (first | (apply EvW.move; exact rfl)))
    try refine WL.wanted rfl rfl rfl ?_
    apply WL.callA ([.blk r #[bv, wv, cv, i64 (m).ar, i64 (m).ac, .bool (m).off] 59, .own 31 1 bv 24 ((pgs).map pgV), sepL ((pgs).map (pgH 5)), .own 3 1 wv 24 ((m).worn.map i64)])
    · exact rfl
    · exact rfl
    · exact fun w => Try.call24 _ w
    · (focus ((repeat (first | exact TakeL.nil | apply TakeL.cons | exact Take.head | apply Take.tail)); done))
    · exact fun w1 S1 hS1 hs1 ho1 => ragain_spec r bv wv cv pgs m i w1 S1 hS1 hm hP
    rintro _ _ ⟨r2, bv2, wv2, pgs2, rfl, rfl, hP2⟩
    first | refine WL.app4 ?_ | refine WL.app3 ?_ | refine WL.app2 ?_ | refine WL.app1 ?_ | refine WL.app0 ?_ | skip
    repeat first
      | (apply WL.q; exact rfl; exact rfl; exact rfl; (first | (apply EvW.assign; exact rfl)))
      | refine WC.seq ?_ | refine WC.region ?_ | refine WL.nil ?_ | refine WE.next ?_ | refine WC.block ?_
    refine WC.loopK (σ := Nat) [3, 4] (fun s => [(16, i64 s)]) (fun s => [.blk b2 (Value.map (none) :: i64 (m.again).ar :: i64 (m.again).ac :: Value.bool (m.again).off :: ((m.again).pages.map str ++ (m.again).worn.map i64)).toArray 41, .blk r2 #[bv2, wv2, .slice none 0 0, i64 (m.again).ar, i64 (m.again).ac, .bool (m.again).off] 59, .own 31 1 bv2 24 ((pgs2).map pgV), sepL ((pgs2).map (pgH 5))]) (fun s => s ≤ 24) (fun s => 24 - s) 0 (by (focus ((repeat (first | exact Pick.nil | (apply Pick.cons; exact rfl))); done))) (by (focus ((repeat (first | exact trivial | (refine ⟨rfl, ?_⟩))); done))) (fun _ h => h.keep (by (focus ((repeat (first | exact TakeL.nil | apply TakeL.cons | exact Take.head | apply Take.tail)); done)))) (Nat.zero_le _) (fun s hs => ?_)
    obtain ⟨p, rfl⟩ : ∃ q, q = s := ⟨s, rfl⟩
    simp only [List.cons_append, List.nil_append] at hs ⊢
    by_cases hp : (p : Int) < 24
    · have hra := read_all hm (p := (p : Int)) (by omega)
      have hout := hP2.out (T := 5) (p : Int) (by omega)
      have hat := hP2.at (p : Int) (by omega)
      generalize (pgs2.getD ((p : Nat) : Int).toNat default).v = pv at hout hat
      rw [show m.again.page (p : Int) = m.page (p : Int) from rfl] at hout
      repeat first
        | (apply WL.q; exact rfl; exact rfl; exact rfl; (first | (apply EvW.move; exact rfl) | (apply EvW.cmpT; exact rfl; exact rfl; exact rfl; omega)))
        | refine WC.seq ?_ | refine WC.region ?_ | refine WL.nil ?_ | refine WE.next ?_ | refine WC.block ?_ | refine WC.skip ?_ | refine WC.condT rfl ?_
      try refine WL.wanted rfl rfl rfl ?_
      apply WL.callA ([.blk b2 (Value.map (none) :: i64 (m.again).ar :: i64 (m.again).ac :: Value.bool (m.again).off :: ((m.again).pages.map str ++ (m.again).worn.map i64)).toArray 41])
      · exact rfl
      · exact rfl
      · exact fun w => Try.call12 _ w
      · (focus ((repeat (first | exact TakeL.nil | apply TakeL.cons | exact Take.head | apply Take.tail)); done))
      · exact fun w1 S1 hS1 hs1 ho1 => read_spec b2 none m.again i p 0 4096 w1 S1 hS1 (again_wf hm)
      rintro _ _ ⟨rfl, rfl⟩
      first | refine WL.app4 ?_ | refine WL.app3 ?_ | refine WL.app2 ?_ | refine WL.app1 ?_ | refine WL.app0 ?_ | skip
      rw [hra]
      dsimp only
      generalize m.page (p : Int) = PP at hout
      repeat first
        | (apply WL.q; exact rfl; exact rfl; exact rfl; (first | (apply EvW.move; exact rfl) | (apply EvW.assign; exact rfl) | (apply EvW.nilPtr; exact rfl) | (apply EvW.fieldAddr0; exact rfl; exact FldC.eq) | (apply EvW.load; exact rfl; exact ScalC.eq; (focus ((repeat (first | exact Take.head | apply Take.tail)); done)); exact rfl) | (apply EvW.extract; exact rfl; exact rfl) | (apply EvW.cmpF; exact rfl; exact rfl; exact rfl; omega) | (apply EvW.idxOwn; exact rfl; exact rfl; exact UndC.eq; exact SzC.eq; (focus ((repeat (first | exact Take.head | apply Take.tail)); done)); omega; omega)))
        | refine WC.seq ?_ | refine WC.region ?_ | refine WL.nil ?_ | refine WE.next ?_ | refine WL.wanted rfl rfl rfl ?_
      refine WL.out (by (focus ((repeat (first | exact Take.head | apply Take.tail)); done))) (take_at hout) ?_
      try refine WL.wanted rfl rfl rfl ?_
      (apply WL.q; exact rfl; exact rfl; exact rfl; (apply EvW.ldOwn (i := ((p : Nat) : Int).toNat) (off := 0) (q := pv); exact rfl; exact ScalC.eq; (focus ((repeat (first | exact Take.head | apply Take.tail)); done)); exact hat))
      repeat first
        | (apply WL.q; exact rfl; exact rfl; exact rfl; (first | (apply EvW.move; exact rfl) | (apply EvW.assign; exact rfl) | (apply EvW.arN; exact rfl; exact rfl; exact rfl; refine i64_in ?_ ?_ <;> omega) | (apply EvW.pickF; exact rfl; exact rfl) | (apply EvW.sneS; exact rfl; exact rfl) | (apply EvW.strOwn; exact rfl; exact UndC.eq; exact UndC.eq; exact UndC.eq; (focus ((repeat (first | exact Take.head | apply Take.tail)); done)))))
        | refine WC.region ?_ | refine WL.nil ?_ | refine WE.next ?_ | refine WC.skip ?_ | refine WE.out ?_ | refine WC.condF rfl ?_ | refine WL.wanted rfl rfl rfl ?_
      refine WE.back (by (focus ((repeat (first | exact TakeL.nil | apply TakeL.cons | exact Take.head | apply Take.tail)); done))) (take_at hout) ?_
      skip
      exact WE.again (s := p) ((p + 1)) (by omega) (by (focus ((repeat (first | exact trivial | (refine ⟨rfl, ?_⟩))); done))) (fun _ h => (by (try simp only []); exact h.keep (by (focus ((repeat (first | exact TakeL.nil | apply TakeL.cons | exact Take.head | apply Take.tail)); done))))) (by (try simp only []); omega)
    · repeat first
        | (apply WL.q; exact rfl; exact rfl; exact rfl; (first | (apply EvW.move; exact rfl) | (apply EvW.assign; exact rfl) | (apply EvW.cmpF; exact rfl; exact rfl; exact rfl; omega)))
        | refine WC.seq ?_ | refine WC.region ?_ | refine WL.nil ?_ | refine WE.next ?_ | refine WC.exit ?_ | refine WE.pass ?_ | refine WE.hit ?_ | refine WC.condF rfl ?_ | refine WC.ret ?_
      refine WE.bare ?_
      refine WE.ret1 rfl rfl ?_
      rfl
end Go.Proofs.Ytakffjjnogpolaa
