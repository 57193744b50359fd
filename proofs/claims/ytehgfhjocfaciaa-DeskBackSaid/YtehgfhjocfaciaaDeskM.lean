/- Replies in bytes, and the readings of commands and replies: what the desk and the document compute. -/
import Derived.Test.YtehgfhjocfaciaaDeskL
namespace Go.Proofs.Ytehgfhjocfaciaa
open Go.RowKit Go.BK

theorem seal_big (m : PW) : (sealedF m).2 = if m.e = 0 then (sealF m.out).2 else m.e := by
  unfold sealedF; split <;> rfl
theorem rcommand_spec (c : Cmd) (w : World) (S : BSet) (hS : (sepL []).sat S w) (h1 : c.k ≤ 9223372036854775807) (h2 : c.s ≤ 9223372036854775807) (h3 : c.n ≤ 9223372036854775807) (h4 : c.v ≤ 9223372036854775807) :
    Tri Try.prog 18 #[.agg #[i64 (c).k, i64 (c).s, i64 (c).n, i64 (c).v]] w S fun u A => u = .tuple #[str (cmdF c).1, i64 (cmdF c).2] ∧ A = [] := by
  refine Tri.enter (l := [.agg #[i64 (c).k, i64 (c).s, i64 (c).n, i64 (c).v]]) Try.func18 rfl Try.ntmps18 rfl [(0, .agg #[i64 (c).k, i64 (c).s, i64 (c).n, i64 (c).v])] (subA rfl) hS ?_
  have f1 := kfits_num 1 (PW.init 6) c.k six_fits
  have f2 := kfits_num 1 _ c.s f1
  have f3 := kfits_num 2 _ c.n f2
  have hM : PW.num 2 (PW.num 2 (PW.num 1 (PW.num 1 (PW.init 6) c.k) c.s) c.n) c.v = cM c := rfl
  have ho := cM_out c
  unfold cmdF
  repeat first
    | refine WC.seq ?_ | refine WC.region ?_
  try refine WL.wanted rfl rfl rfl ?_
  (apply WL.box; exact rfl; exact rfl; exact rfl; intro q1)
  repeat first
    | (apply WL.q; exact rfl; exact rfl; exact rfl; (first | (apply EvW.assign; exact rfl) | (apply EvW.fieldAddr0; exact rfl; exact FldC.eq) | (apply EvW.load; exact rfl; exact ScalC.eq; (focus ((repeat (first | exact Take.head | apply Take.tail)); done)); exact rfl)))
    | refine WC.seq ?_ | refine WC.region ?_ | refine WL.nil ?_ | refine WE.next ?_
  try refine WL.wanted rfl rfl rfl ?_
  apply WL.callA ([])
  · exact rfl
  · exact rfl
  · exact fun w => Try.call31 _ w
  · (focus ((repeat (first | exact TakeL.nil | apply TakeL.cons | exact Take.head | apply Take.tail)); done))
  · exact fun w1 S1 hS1 hs1 ho1 => rkind_spec c.k w1 S1 hS1
  rintro _ _ ⟨rfl, rfl⟩
  first | refine WL.app4 ?_ | refine WL.app3 ?_ | refine WL.app2 ?_ | refine WL.app1 ?_ | refine WL.app0 ?_ | skip
  by_cases hk : btw c.k 1 11 = true
  · rw [hk, if_pos rfl]
    repeat first
      | (apply WL.q; exact rfl; exact rfl; exact rfl; (first | (apply EvW.notT; exact rfl)))
      | refine WC.seq ?_ | refine WC.region ?_ | refine WL.nil ?_ | refine WE.next ?_ | refine WC.skip ?_ | refine WC.condF rfl ?_
    try refine WL.wanted rfl rfl rfl ?_
    apply WL.callA ([])
    · exact rfl
    · exact rfl
    · exact fun w => Try.call37 _ w
    · (focus ((repeat (first | exact TakeL.nil | apply TakeL.cons | exact Take.head | apply Take.tail)); done))
    · exact fun w1 S1 hS1 hs1 ho1 => rnew_spec 6 w1 S1 hS1
    rintro _ _ ⟨b, rfl, rfl⟩
    first | refine WL.app4 ?_ | refine WL.app3 ?_ | refine WL.app2 ?_ | refine WL.app1 ?_ | refine WL.app0 ?_ | skip
    repeat first
      | (apply WL.q; exact rfl; exact rfl; exact rfl; (first | (apply EvW.move; exact rfl) | (apply EvW.assign; exact rfl) | (apply EvW.fieldAddr0; exact rfl; exact FldC.eq) | (apply EvW.load; exact rfl; exact ScalC.eq; (focus ((repeat (first | exact Take.head | apply Take.tail)); done)); exact rfl)))
      | refine WC.seq ?_ | refine WC.region ?_ | refine WL.nil ?_ | refine WE.next ?_
    try refine WL.wanted rfl rfl rfl ?_
    apply WL.callA ([.own 5 1 (Value.slice none 0 0) (PW.init 6).out.length ((PW.init 6).out.map byt), .blk b #[Value.slice none 0 0, i64 (PW.init 6).lim, i64 (PW.init 6).e] 92])
    · exact rfl
    · exact rfl
    · exact fun w => Try.call38 _ w
    · (focus ((repeat (first | exact TakeL.nil | apply TakeL.cons | exact Take.head | apply Take.tail)); done))
    · exact fun w1 S1 hS1 hs1 ho1 => rnumw_spec b (Value.slice none 0 0) (PW.init 6) c.k 1 (by decide) (by decide) w1 S1 hS1 (six_fits _) h1
    rintro _ _ ⟨rfl, v1, rfl⟩
    first | refine WL.app4 ?_ | refine WL.app3 ?_ | refine WL.app2 ?_ | refine WL.app1 ?_ | refine WL.app0 ?_ | skip
    generalize PW.num 1 (PW.init 6) c.k = M1 at f1 f2 f3 hM
    repeat first
      | (apply WL.q; exact rfl; exact rfl; exact rfl; (first | (apply EvW.move; exact rfl) | (apply EvW.fieldAddr0; exact rfl; exact FldC.eq) | (apply EvW.load; exact rfl; exact ScalC.eq; (focus ((repeat (first | exact Take.head | apply Take.tail)); done)); exact rfl)))
      | refine WC.seq ?_ | refine WC.region ?_ | refine WL.nil ?_ | refine WE.next ?_
    try refine WL.wanted rfl rfl rfl ?_
    apply WL.callA ([.own 5 1 (v1) (M1).out.length ((M1).out.map byt), .blk b #[v1, i64 (M1).lim, i64 (M1).e] 92])
    · exact rfl
    · exact rfl
    · exact fun w => Try.call38 _ w
    · (focus ((repeat (first | exact TakeL.nil | apply TakeL.cons | exact Take.head | apply Take.tail)); done))
    · exact fun w1 S1 hS1 hs1 ho1 => rnumw_spec b v1 M1 c.s 1 (by decide) (by decide) w1 S1 hS1 (f1 _) h2
    rintro _ _ ⟨rfl, v2, rfl⟩
    first | refine WL.app4 ?_ | refine WL.app3 ?_ | refine WL.app2 ?_ | refine WL.app1 ?_ | refine WL.app0 ?_ | skip
    generalize PW.num 1 M1 c.s = M2 at f2 f3 hM
    repeat first
      | (apply WL.q; exact rfl; exact rfl; exact rfl; (first | (apply EvW.move; exact rfl) | (apply EvW.fieldAddr0; exact rfl; exact FldC.eq) | (apply EvW.load; exact rfl; exact ScalC.eq; (focus ((repeat (first | exact Take.head | apply Take.tail)); done)); exact rfl)))
      | refine WC.seq ?_ | refine WC.region ?_ | refine WL.nil ?_ | refine WE.next ?_
    try refine WL.wanted rfl rfl rfl ?_
    apply WL.callA ([.own 5 1 (v2) (M2).out.length ((M2).out.map byt), .blk b #[v2, i64 (M2).lim, i64 (M2).e] 92])
    · exact rfl
    · exact rfl
    · exact fun w => Try.call38 _ w
    · (focus ((repeat (first | exact TakeL.nil | apply TakeL.cons | exact Take.head | apply Take.tail)); done))
    · exact fun w1 S1 hS1 hs1 ho1 => rnumw_spec b v2 M2 c.n 2 (by decide) (by decide) w1 S1 hS1 (f2 _) h3
    rintro _ _ ⟨rfl, v3, rfl⟩
    first | refine WL.app4 ?_ | refine WL.app3 ?_ | refine WL.app2 ?_ | refine WL.app1 ?_ | refine WL.app0 ?_ | skip
    generalize PW.num 2 M2 c.n = M3 at f3 hM
    repeat first
      | (apply WL.q; exact rfl; exact rfl; exact rfl; (first | (apply EvW.move; exact rfl) | (apply EvW.fieldAddr0; exact rfl; exact FldC.eq) | (apply EvW.load; exact rfl; exact ScalC.eq; (focus ((repeat (first | exact Take.head | apply Take.tail)); done)); exact rfl)))
      | refine WC.seq ?_ | refine WC.region ?_ | refine WL.nil ?_ | refine WE.next ?_
    try refine WL.wanted rfl rfl rfl ?_
    apply WL.callA ([.own 5 1 (v3) (M3).out.length ((M3).out.map byt), .blk b #[v3, i64 (M3).lim, i64 (M3).e] 92])
    · exact rfl
    · exact rfl
    · exact fun w => Try.call38 _ w
    · (focus ((repeat (first | exact TakeL.nil | apply TakeL.cons | exact Take.head | apply Take.tail)); done))
    · exact fun w1 S1 hS1 hs1 ho1 => rnumw_spec b v3 M3 c.v 2 (by decide) (by decide) w1 S1 hS1 (f3 _) h4
    rintro _ _ ⟨rfl, v4, rfl⟩
    first | refine WL.app4 ?_ | refine WL.app3 ?_ | refine WL.app2 ?_ | refine WL.app1 ?_ | refine WL.app0 ?_ | skip
    rw [hM]
    repeat first
      | (apply WL.q; exact rfl; exact rfl; exact rfl; (first | (apply EvW.move; exact rfl)))
      | refine WC.seq ?_ | refine WC.region ?_ | refine WL.nil ?_ | refine WE.next ?_
    try refine WL.wanted rfl rfl rfl ?_
    apply WL.callA ([.own 5 1 (v4) (cM c).out.length ((cM c).out.map byt), .blk b #[v4, i64 (cM c).lim, i64 (cM c).e] 92])
    · exact rfl
    · exact rfl
    · exact fun w => Try.call39 _ w
    · (focus ((repeat (first | exact TakeL.nil | apply TakeL.cons | exact Take.head | apply Take.tail)); done))
    · exact fun w1 S1 hS1 hs1 ho1 => rdone_spec b v4 (cM c) w1 S1 hS1
    rintro _ _ ⟨rfl, rfl⟩
    first | refine WL.app4 ?_ | refine WL.app3 ?_ | refine WL.app2 ?_ | refine WL.app1 ?_ | refine WL.app0 ?_ | skip
    unfold sealedF PW.said
    by_cases he : (cM c).e = 0
    · rw [if_pos he, if_pos he]
      repeat first
        | (apply WL.q; exact rfl; exact rfl; exact rfl; (first | (apply EvW.move; exact rfl) | (apply EvW.assign; exact rfl) | (apply EvW.extract; exact rfl; exact rfl) | (apply EvW.cmpF; exact rfl; exact rfl; exact rfl; omega)))
        | refine WC.seq ?_ | refine WC.region ?_ | refine WL.nil ?_ | refine WE.next ?_ | refine WC.skip ?_ | refine WC.condF rfl ?_
      try refine WL.wanted rfl rfl rfl ?_
      apply WL.callA ([])
      · exact rfl
      · exact rfl
      · exact fun w => Try.call40 _ w
      · (focus ((repeat (first | exact TakeL.nil | apply TakeL.cons | exact Take.head | apply Take.tail)); done))
      · exact fun w1 S1 hS1 hs1 ho1 => rseal_spec (cM c).out w1 S1 hS1 (by omega)
      rintro _ _ ⟨rfl, rfl⟩
      first | refine WL.app4 ?_ | refine WL.app3 ?_ | refine WL.app2 ?_ | refine WL.app1 ?_ | refine WL.app0 ?_ | skip
      repeat first
        | (apply WL.q; exact rfl; exact rfl; exact rfl; (first | (apply EvW.move; exact rfl) | (apply EvW.assign; exact rfl) | (apply EvW.extract; exact rfl; exact rfl)))
        | refine WC.seq ?_ | refine WC.region ?_ | refine WL.nil ?_ | refine WE.next ?_ | refine WC.ret ?_
      refine WE.bare ?_
      refine WE.retN (l := [2, 3]) rfl rfl rfl ?_
      exact ⟨rfl, rfl⟩
    · rw [if_neg he, if_neg he]
      repeat first
        | (apply WL.q; exact rfl; exact rfl; exact rfl; (first | (apply EvW.move; exact rfl) | (apply EvW.assign; exact rfl) | (apply EvW.extract; exact rfl; exact rfl) | (apply EvW.cmpT; exact rfl; exact rfl; exact rfl; omega)))
        | refine WC.seq ?_ | refine WC.region ?_ | refine WL.nil ?_ | refine WE.next ?_ | refine WC.condT rfl ?_ | refine WC.ret ?_ | refine WE.passRet ?_
      refine WE.bare ?_
      refine WE.retN (l := [2, 3]) rfl rfl rfl ?_
      exact ⟨rfl, rfl⟩
  · rw [show btw c.k 1 11 = false by simpa using hk, if_neg (by decide)]
    repeat first
      | (apply WL.q; exact rfl; exact rfl; exact rfl; (first | (apply EvW.assign; exact rfl) | (apply EvW.notF; exact rfl)))
      | refine WC.seq ?_ | refine WC.region ?_ | refine WL.nil ?_ | refine WE.next ?_ | refine WC.condT rfl ?_ | refine WC.ret ?_ | refine WE.passRet ?_
    refine WE.bare ?_
    refine WE.retN (l := [2, 3]) rfl rfl rfl ?_
    exact ⟨rfl, rfl⟩
theorem reply_spec (r : Rep) (w : World) (S : BSet) (hS : (sepL []).sat S w)  :
    Tri Try.prog 19 #[.agg #[i64 (r).c, i64 (r).v]] w S fun u A => u = .tuple #[str (repF r).1, i64 (repF r).2] ∧ A = [] := by
  refine Tri.enter (l := [.agg #[i64 (r).c, i64 (r).v]]) Try.func19 rfl Try.ntmps19 rfl [(0, .agg #[i64 (r).c, i64 (r).v])] (subA rfl) hS ?_
  have hM : [r.v].foldl (PW.num 4) ([100, r.c].foldl (PW.num 1) (PW.init 6)) = yM r := rfl
  unfold repF
  repeat first
    | refine WC.seq ?_ | refine WC.region ?_
  try refine WL.wanted rfl rfl rfl ?_
  (apply WL.box; exact rfl; exact rfl; exact rfl; intro q1)
  repeat first
    | (apply WL.q; exact rfl; exact rfl; exact rfl; (first | (apply EvW.assign; exact rfl)))
    | refine WC.seq ?_ | refine WC.region ?_ | refine WL.nil ?_ | refine WE.next ?_
  try refine WL.wanted rfl rfl rfl ?_
  apply WL.callA ([])
  · exact rfl
  · exact rfl
  · exact fun w => Try.call33 _ w
  · (focus ((repeat (first | exact TakeL.nil | apply TakeL.cons | exact Take.head | apply Take.tail)); done))
  · exact fun w1 S1 hS1 hs1 ho1 => new_spec 6 w1 S1 hS1
  rintro _ _ ⟨b, rfl, rfl⟩
  first | refine WL.app4 ?_ | refine WL.app3 ?_ | refine WL.app2 ?_ | refine WL.app1 ?_ | refine WL.app0 ?_ | skip
  repeat first
    | (apply WL.q; exact rfl; exact rfl; exact rfl; (first | (apply EvW.move; exact rfl) | (apply EvW.assign; exact rfl) | (apply EvW.fieldAddr0; exact rfl; exact FldC.eq) | (apply EvW.load; exact rfl; exact ScalC.eq; (focus ((repeat (first | exact Take.head | apply Take.tail)); done)); exact rfl)))
    | refine WC.seq ?_ | refine WC.region ?_ | refine WL.nil ?_ | refine WE.next ?_
  try refine WL.wanted rfl rfl rfl ?_
  (apply WL.buildSlice; exact rfl; exact UndC.eq; exact SzC.eq; exact ZvC.eq; exact rfl; exact rfl; exact rfl; ((focus ((repeat (first | exact Flat.nil | (apply Flat.one; (first | exact rfl | assumption)) | (apply Flat.cons; exact rfl; exact rfl))); done))); exact rfl; exact rfl; intro x1)
  try refine WL.wanted rfl rfl rfl ?_
  apply WL.callA ([.own 5 1 (Value.slice none 0 0) (PW.init 6).out.length ((PW.init 6).out.map byt), .blk b #[i64 (PW.init 6).e, Value.slice none 0 0, i64 (PW.init 6).lim] 87])
  · exact rfl
  · exact rfl
  · exact fun w => Try.call34 _ w
  · (focus ((repeat (first | exact TakeL.nil | apply TakeL.cons | exact Take.head | apply Take.tail)); done))
  · exact fun w1 S1 hS1 hs1 ho1 => byte_spec b _ _ (PW.init 6) [100, r.c] w1 S1 hS1 ((ho1 _ _ .head).blkRow rfl (fun k u h => by simpa using h) (by simp)) (six_fits _) (by simp)
  rintro _ _ ⟨rfl, v1, rfl⟩
  first | refine WL.app4 ?_ | refine WL.app3 ?_ | refine WL.app2 ?_ | refine WL.app1 ?_ | refine WL.app0 ?_ | skip
  repeat first
    | (apply WL.q; exact rfl; exact rfl; exact rfl; (first | (apply EvW.move; exact rfl) | (apply EvW.fieldAddr0; exact rfl; exact FldC.eq) | (apply EvW.load; exact rfl; exact ScalC.eq; (focus ((repeat (first | exact Take.head | apply Take.tail)); done)); exact rfl)))
    | refine WC.seq ?_ | refine WC.region ?_ | refine WL.nil ?_ | refine WE.next ?_
  try refine WL.wanted rfl rfl rfl ?_
  (apply WL.buildSlice; exact rfl; exact UndC.eq; exact SzC.eq; exact ZvC.eq; exact rfl; exact rfl; exact rfl; ((focus ((repeat (first | exact Flat.nil | (apply Flat.one; (first | exact rfl | assumption)) | (apply Flat.cons; exact rfl; exact rfl))); done))); exact rfl; exact rfl; intro x2)
  try refine WL.wanted rfl rfl rfl ?_
  apply WL.callA ([.own 5 1 (v1) ([100, r.c].foldl (PW.num 1) (PW.init 6)).out.length (([100, r.c].foldl (PW.num 1) (PW.init 6)).out.map byt), .blk b #[i64 ([100, r.c].foldl (PW.num 1) (PW.init 6)).e, v1, i64 ([100, r.c].foldl (PW.num 1) (PW.init 6)).lim] 87])
  · exact rfl
  · exact rfl
  · exact fun w => Try.call41 _ w
  · (focus ((repeat (first | exact TakeL.nil | apply TakeL.cons | exact Take.head | apply Take.tail)); done))
  · exact fun w1 S1 hS1 hs1 ho1 => long_spec b _ _ ([100, r.c].foldl (PW.num 1) (PW.init 6)) [r.v] w1 S1 hS1 ((ho1 _ _ .head).blkRow rfl (fun k u h => by simpa using h) (by simp)) (kfits_num 1 _ r.c (kfits_num 1 _ 100 six_fits) _) (by simp)
  rintro _ _ ⟨rfl, v2, rfl⟩
  first | refine WL.app4 ?_ | refine WL.app3 ?_ | refine WL.app2 ?_ | refine WL.app1 ?_ | refine WL.app0 ?_ | skip
  rw [hM]
  repeat first
    | (apply WL.q; exact rfl; exact rfl; exact rfl; (first | (apply EvW.move; exact rfl)))
    | refine WC.seq ?_ | refine WC.region ?_ | refine WL.nil ?_ | refine WE.next ?_
  try refine WL.wanted rfl rfl rfl ?_
  apply WL.callA ([.own 5 1 (v2) (yM r).out.length ((yM r).out.map byt), .blk b #[i64 (yM r).e, v2, i64 (yM r).lim] 87])
  · exact rfl
  · exact rfl
  · exact fun w => Try.call36 _ w
  · (focus ((repeat (first | exact TakeL.nil | apply TakeL.cons | exact Take.head | apply Take.tail)); done))
  · exact fun w1 S1 hS1 hs1 ho1 => sealed_spec b v2 (yM r) w1 S1 hS1 (yM_out r)
  rintro _ _ ⟨rfl, rfl⟩
  first | refine WL.app4 ?_ | refine WL.app3 ?_ | refine WL.app2 ?_ | refine WL.app1 ?_ | refine WL.app0 ?_ | skip
  repeat first
    | (apply WL.q; exact rfl; exact rfl; exact rfl; (first | (apply EvW.assign; exact rfl) | (apply EvW.extract; exact rfl; exact rfl)))
    | refine WL.nil ?_ | refine WE.next ?_ | refine WC.ret ?_
  refine WE.bare ?_
  refine WE.retN (l := [2, 3]) rfl rfl rfl ?_
  exact ⟨rfl, rfl⟩
theorem rreply_spec (r : Rep) (w : World) (S : BSet) (hS : (sepL []).sat S w) (h1 : r.c ≤ 9223372036854775807) (h2 : r.v ≤ 9223372036854775807) :
    Tri Try.prog 20 #[.agg #[i64 (r).c, i64 (r).v]] w S fun u A => u = .tuple #[str (repF r).1, i64 (repF r).2] ∧ A = [] := by
  refine Tri.enter (l := [.agg #[i64 (r).c, i64 (r).v]]) Try.func20 rfl Try.ntmps20 rfl [(0, .agg #[i64 (r).c, i64 (r).v])] (subA rfl) hS ?_
  have f1 := kfits_num 1 (PW.init 6) 100 six_fits
  have f2 := kfits_num 1 _ r.c f1
  have hM : PW.num 4 (PW.num 1 (PW.num 1 (PW.init 6) 100) r.c) r.v = yM r := rfl
  have ho := yM_out r
  unfold repF
  repeat first
    | refine WC.seq ?_ | refine WC.region ?_
  try refine WL.wanted rfl rfl rfl ?_
  (apply WL.box; exact rfl; exact rfl; exact rfl; intro q1)
  repeat first
    | (apply WL.q; exact rfl; exact rfl; exact rfl; (first | (apply EvW.assign; exact rfl)))
    | refine WC.seq ?_ | refine WC.region ?_ | refine WL.nil ?_ | refine WE.next ?_
  try refine WL.wanted rfl rfl rfl ?_
  apply WL.callA ([])
  · exact rfl
  · exact rfl
  · exact fun w => Try.call37 _ w
  · (focus ((repeat (first | exact TakeL.nil | apply TakeL.cons | exact Take.head | apply Take.tail)); done))
  · exact fun w1 S1 hS1 hs1 ho1 => rnew_spec 6 w1 S1 hS1
  rintro _ _ ⟨b, rfl, rfl⟩
  first | refine WL.app4 ?_ | refine WL.app3 ?_ | refine WL.app2 ?_ | refine WL.app1 ?_ | refine WL.app0 ?_ | skip
  repeat first
    | (apply WL.q; exact rfl; exact rfl; exact rfl; (first | (apply EvW.move; exact rfl) | (apply EvW.assign; exact rfl)))
    | refine WC.seq ?_ | refine WC.region ?_ | refine WL.nil ?_ | refine WE.next ?_
  try refine WL.wanted rfl rfl rfl ?_
  apply WL.callA ([.own 5 1 (Value.slice none 0 0) (PW.init 6).out.length ((PW.init 6).out.map byt), .blk b #[Value.slice none 0 0, i64 (PW.init 6).lim, i64 (PW.init 6).e] 92])
  · exact rfl
  · exact rfl
  · exact fun w => Try.call38 _ w
  · (focus ((repeat (first | exact TakeL.nil | apply TakeL.cons | exact Take.head | apply Take.tail)); done))
  · exact fun w1 S1 hS1 hs1 ho1 => rnumw_spec b (Value.slice none 0 0) (PW.init 6) 100 1 (by decide) (by decide) w1 S1 hS1 (six_fits _) (by decide)
  rintro _ _ ⟨rfl, v1, rfl⟩
  first | refine WL.app4 ?_ | refine WL.app3 ?_ | refine WL.app2 ?_ | refine WL.app1 ?_ | refine WL.app0 ?_ | skip
  generalize PW.num 1 (PW.init 6) 100 = M1 at f1 f2 hM
  repeat first
    | (apply WL.q; exact rfl; exact rfl; exact rfl; (first | (apply EvW.move; exact rfl) | (apply EvW.fieldAddr0; exact rfl; exact FldC.eq) | (apply EvW.load; exact rfl; exact ScalC.eq; (focus ((repeat (first | exact Take.head | apply Take.tail)); done)); exact rfl)))
    | refine WC.seq ?_ | refine WC.region ?_ | refine WL.nil ?_ | refine WE.next ?_
  try refine WL.wanted rfl rfl rfl ?_
  apply WL.callA ([.own 5 1 (v1) (M1).out.length ((M1).out.map byt), .blk b #[v1, i64 (M1).lim, i64 (M1).e] 92])
  · exact rfl
  · exact rfl
  · exact fun w => Try.call38 _ w
  · (focus ((repeat (first | exact TakeL.nil | apply TakeL.cons | exact Take.head | apply Take.tail)); done))
  · exact fun w1 S1 hS1 hs1 ho1 => rnumw_spec b v1 M1 r.c 1 (by decide) (by decide) w1 S1 hS1 (f1 _) h1
  rintro _ _ ⟨rfl, v2, rfl⟩
  first | refine WL.app4 ?_ | refine WL.app3 ?_ | refine WL.app2 ?_ | refine WL.app1 ?_ | refine WL.app0 ?_ | skip
  generalize PW.num 1 M1 r.c = M2 at f2 hM
  repeat first
    | (apply WL.q; exact rfl; exact rfl; exact rfl; (first | (apply EvW.move; exact rfl) | (apply EvW.fieldAddr0; exact rfl; exact FldC.eq) | (apply EvW.load; exact rfl; exact ScalC.eq; (focus ((repeat (first | exact Take.head | apply Take.tail)); done)); exact rfl)))
    | refine WC.seq ?_ | refine WC.region ?_ | refine WL.nil ?_ | refine WE.next ?_
  try refine WL.wanted rfl rfl rfl ?_
  apply WL.callA ([.own 5 1 (v2) (M2).out.length ((M2).out.map byt), .blk b #[v2, i64 (M2).lim, i64 (M2).e] 92])
  · exact rfl
  · exact rfl
  · exact fun w => Try.call38 _ w
  · (focus ((repeat (first | exact TakeL.nil | apply TakeL.cons | exact Take.head | apply Take.tail)); done))
  · exact fun w1 S1 hS1 hs1 ho1 => rnumw_spec b v2 M2 r.v 4 (by decide) (by decide) w1 S1 hS1 (f2 _) h2
  rintro _ _ ⟨rfl, v3, rfl⟩
  first | refine WL.app4 ?_ | refine WL.app3 ?_ | refine WL.app2 ?_ | refine WL.app1 ?_ | refine WL.app0 ?_ | skip
  rw [hM]
  repeat first
    | (apply WL.q; exact rfl; exact rfl; exact rfl; (first | (apply EvW.move; exact rfl)))
    | refine WC.seq ?_ | refine WC.region ?_ | refine WL.nil ?_ | refine WE.next ?_
  try refine WL.wanted rfl rfl rfl ?_
  apply WL.callA ([.own 5 1 (v3) (yM r).out.length ((yM r).out.map byt), .blk b #[v3, i64 (yM r).lim, i64 (yM r).e] 92])
  · exact rfl
  · exact rfl
  · exact fun w => Try.call39 _ w
  · (focus ((repeat (first | exact TakeL.nil | apply TakeL.cons | exact Take.head | apply Take.tail)); done))
  · exact fun w1 S1 hS1 hs1 ho1 => rdone_spec b v3 (yM r) w1 S1 hS1
  rintro _ _ ⟨rfl, rfl⟩
  first | refine WL.app4 ?_ | refine WL.app3 ?_ | refine WL.app2 ?_ | refine WL.app1 ?_ | refine WL.app0 ?_ | skip
  unfold sealedF PW.said
  by_cases he : (yM r).e = 0
  · rw [if_pos he, if_pos he]
    repeat first
      | (apply WL.q; exact rfl; exact rfl; exact rfl; (first | (apply EvW.move; exact rfl) | (apply EvW.assign; exact rfl) | (apply EvW.extract; exact rfl; exact rfl) | (apply EvW.cmpF; exact rfl; exact rfl; exact rfl; omega)))
      | refine WC.seq ?_ | refine WC.region ?_ | refine WL.nil ?_ | refine WE.next ?_ | refine WC.skip ?_ | refine WC.condF rfl ?_
    try refine WL.wanted rfl rfl rfl ?_
    apply WL.callA ([])
    · exact rfl
    · exact rfl
    · exact fun w => Try.call40 _ w
    · (focus ((repeat (first | exact TakeL.nil | apply TakeL.cons | exact Take.head | apply Take.tail)); done))
    · exact fun w1 S1 hS1 hs1 ho1 => rseal_spec (yM r).out w1 S1 hS1 (by omega)
    rintro _ _ ⟨rfl, rfl⟩
    first | refine WL.app4 ?_ | refine WL.app3 ?_ | refine WL.app2 ?_ | refine WL.app1 ?_ | refine WL.app0 ?_ | skip
    repeat first
      | (apply WL.q; exact rfl; exact rfl; exact rfl; (first | (apply EvW.move; exact rfl) | (apply EvW.assign; exact rfl) | (apply EvW.extract; exact rfl; exact rfl)))
      | refine WC.seq ?_ | refine WC.region ?_ | refine WL.nil ?_ | refine WE.next ?_ | refine WC.ret ?_
    refine WE.bare ?_
    refine WE.retN (l := [2, 3]) rfl rfl rfl ?_
    exact ⟨rfl, rfl⟩
  · rw [if_neg he, if_neg he]
    repeat first
      | (apply WL.q; exact rfl; exact rfl; exact rfl; (first | (apply EvW.move; exact rfl) | (apply EvW.assign; exact rfl) | (apply EvW.extract; exact rfl; exact rfl) | (apply EvW.cmpT; exact rfl; exact rfl; exact rfl; omega)))
      | refine WC.seq ?_ | refine WC.region ?_ | refine WL.nil ?_ | refine WE.next ?_ | refine WC.condT rfl ?_ | refine WC.ret ?_ | refine WE.passRet ?_
    refine WE.bare ?_
    refine WE.retN (l := [2, 3]) rfl rfl rfl ?_
    exact ⟨rfl, rfl⟩
theorem readCommand_spec (l : List UInt8) (p : Cmd × Int) (w : World) (S : BSet) (hS : (sepL []).sat S w) (hl : l.length ≤ 140737488355328) (hp : rcF l = p) :
    Tri Try.prog 21 #[str l] w S fun u A => u = .tuple #[.agg #[i64 (p.1).k, i64 (p.1).s, i64 (p.1).n, i64 (p.1).v], i64 p.2] ∧ A = [] := by
  refine Tri.enter (l := [str l]) Try.func21 rfl Try.ntmps21 rfl [(0, str l)] (subA rfl) hS ?_
  unfold rcF at hp
  obtain ⟨b, e, hb⟩ : ∃ b e, openF l = (b, e) := ⟨_, _, rfl⟩
  rw [hb] at hp
  dsimp only at hp
  repeat first
    | refine WC.seq ?_ | refine WC.region ?_
  try refine WL.wanted rfl rfl rfl ?_
  (apply WL.alloc; exact rfl; exact ZvC.eq; exact rfl; intro r)
  repeat first
    | (apply WL.q; exact rfl; exact rfl; exact rfl; (first | (apply EvW.move; exact rfl) | (apply EvW.assign; exact rfl)))
    | refine WC.seq ?_ | refine WC.region ?_ | refine WL.nil ?_ | refine WE.next ?_
  try refine WL.wanted rfl rfl rfl ?_
  apply WL.callA ([])
  · exact rfl
  · exact rfl
  · exact fun w => Try.call42 _ w
  · (focus ((repeat (first | exact TakeL.nil | apply TakeL.cons | exact Take.head | apply Take.tail)); done))
  · exact fun w1 S1 hS1 hs1 ho1 => open_spec l w1 S1 hS1 (by omega)
  rintro _ _ ⟨rfl, rfl⟩
  first | refine WL.app4 ?_ | refine WL.app3 ?_ | refine WL.app2 ?_ | refine WL.app1 ?_ | refine WL.app0 ?_ | skip
  rw [hb]
  dsimp only
  by_cases he : e = 0
  rotate_left
  · rw [if_pos he] at hp
    subst hp
    repeat first
      | (apply WL.q; exact rfl; exact rfl; exact rfl; (first | (apply EvW.move; exact rfl) | (apply EvW.assign; exact rfl) | (apply EvW.extract; exact rfl; exact rfl) | (apply EvW.cmpT; exact rfl; exact rfl; exact rfl; omega) | (apply EvW.build; exact PlC.eq; exact ZvC.eq; exact rfl; exact rfl; (focus ((repeat (first | exact Fills.nil | (apply Fills.cons; exact rfl; (first | assumption | exact rfl); exact rfl) | exact SetMany.nil | apply SetMany.cons | apply SetMany.succ)); done)))))
      | refine WC.seq ?_ | refine WC.region ?_ | refine WL.nil ?_ | refine WE.next ?_ | refine WC.block ?_ | refine WC.condT rfl ?_ | refine WC.ret ?_ | refine WE.passRet ?_ | refine WE.outRet ?_ | (apply WL.store; exact rfl; exact rfl; (first | assumption | exact rfl); exact SzC.eq; (first | assumption | exact rfl); (focus ((repeat (first | apply UpdC.head | apply UpdC.tail | exact SetMany.nil | apply SetMany.cons | apply SetMany.succ)); done)))
    (apply WE.retC2 (A' := []); exact rfl; exact rfl; exact rfl; (focus ((repeat (first | exact Take.head | apply Take.tail)); done)); exact AggC.eq; exact SzC.eq; exact fun _ h => h.keep (by (focus ((repeat (first | exact TakeL.nil | apply TakeL.cons | exact Take.head | apply Take.tail)); done))))
    exact ⟨rfl, rfl⟩
  rw [if_neg (fun h => h he)] at hp
  by_cases h6 : (b.length : Int) = 6
  rotate_left
  · rw [if_pos h6] at hp
    subst hp
    repeat first
      | (apply WL.q; exact rfl; exact rfl; exact rfl; (first | (apply EvW.move; exact rfl) | (apply EvW.assign; exact rfl) | (apply EvW.extract; exact rfl; exact rfl) | (apply EvW.lenS; exact rfl; exact UndC.eq) | (apply EvW.cmpT; exact rfl; exact rfl; exact rfl; omega) | (apply EvW.cmpF; exact rfl; exact rfl; exact rfl; omega) | (apply EvW.build; exact PlC.eq; exact ZvC.eq; exact rfl; exact rfl; (focus ((repeat (first | exact Fills.nil | (apply Fills.cons; exact rfl; (first | assumption | exact rfl); exact rfl) | exact SetMany.nil | apply SetMany.cons | apply SetMany.succ)); done)))))
      | refine WC.seq ?_ | refine WC.region ?_ | refine WL.nil ?_ | refine WE.next ?_ | refine WC.block ?_ | refine WC.condT rfl ?_ | refine WC.condF rfl ?_ | refine WC.ret ?_ | refine WE.passRet ?_ | refine WE.outRet ?_ | (apply WL.store; exact rfl; exact rfl; (first | assumption | exact rfl); exact SzC.eq; (first | assumption | exact rfl); (focus ((repeat (first | apply UpdC.head | apply UpdC.tail | exact SetMany.nil | apply SetMany.cons | apply SetMany.succ)); done)))
    (apply WE.retC2 (A' := []); exact rfl; exact rfl; exact rfl; (focus ((repeat (first | exact Take.head | apply Take.tail)); done)); exact AggC.eq; exact SzC.eq; exact fun _ h => h.keep (by (focus ((repeat (first | exact TakeL.nil | apply TakeL.cons | exact Take.head | apply Take.tail)); done))))
    exact ⟨rfl, rfl⟩
  rw [if_neg (fun h => h h6)] at hp
  have h1 := num1_at b (by omega)
  have hw : IntKind.i64.wrap ((b.getD (0 : Int).toNat 0).toNat : Int) = (c1 b).1 := by
    rw [h1]
    have hx := (b.getD (0 : Int).toNat 0).toNat_lt
    exact wrap_in .i64 ⟨by show (-9223372036854775808 : Int) ≤ _; omega, by show _ ≤ (9223372036854775807 : Int); omega⟩
  repeat first
    | (apply WL.q; exact rfl; exact rfl; exact rfl; (first | (apply EvW.move; exact rfl) | (apply EvW.assign; exact rfl) | (apply EvW.extract; exact rfl; exact rfl) | (apply EvW.lenS; exact rfl; exact UndC.eq) | (apply EvW.cmpF; exact rfl; exact rfl; exact rfl; omega) | (apply EvW.conv; exact rfl; exact UndC.eq; exact UndC.eq) | (apply EvW.index; exact rfl; exact rfl; exact UndC.eq; omega; omega)))
    | refine WC.seq ?_ | refine WC.region ?_ | refine WL.nil ?_ | refine WE.next ?_ | refine WC.block ?_ | refine WC.condF rfl ?_
  rw [hw]
  try refine WL.wanted rfl rfl rfl ?_
  apply WL.callA ([])
  · exact rfl
  · exact rfl
  · exact fun w => Try.call29 _ w
  · (focus ((repeat (first | exact TakeL.nil | apply TakeL.cons | exact Take.head | apply Take.tail)); done))
  · exact fun w1 S1 hS1 hs1 ho1 => isKind_spec (c1 b).1 w1 S1 hS1
  rintro _ _ ⟨rfl, rfl⟩
  first | refine WL.app4 ?_ | refine WL.app3 ?_ | refine WL.app2 ?_ | refine WL.app1 ?_ | refine WL.app0 ?_ | skip
  by_cases hk : btw (c1 b).1 1 11 = true
  rotate_left
  · rw [if_neg hk] at hp
    subst hp
    rw [show btw (c1 b).1 1 11 = false by simpa using hk]
    repeat first
      | (apply WL.q; exact rfl; exact rfl; exact rfl; (first | (apply EvW.assign; exact rfl) | (apply EvW.notF; exact rfl) | (apply EvW.build; exact PlC.eq; exact ZvC.eq; exact rfl; exact rfl; (focus ((repeat (first | exact Fills.nil | (apply Fills.cons; exact rfl; (first | assumption | exact rfl); exact rfl) | exact SetMany.nil | apply SetMany.cons | apply SetMany.succ)); done)))))
      | refine WC.seq ?_ | refine WC.region ?_ | refine WL.nil ?_ | refine WE.next ?_ | refine WC.condT rfl ?_ | refine WC.ret ?_ | refine WE.passRet ?_ | refine WE.outRet ?_ | (apply WL.store; exact rfl; exact rfl; (first | assumption | exact rfl); exact SzC.eq; (first | assumption | exact rfl); (focus ((repeat (first | apply UpdC.head | apply UpdC.tail | exact SetMany.nil | apply SetMany.cons | apply SetMany.succ)); done)))
    (apply WE.retC2 (A' := []); exact rfl; exact rfl; exact rfl; (focus ((repeat (first | exact Take.head | apply Take.tail)); done)); exact AggC.eq; exact SzC.eq; exact fun _ h => h.keep (by (focus ((repeat (first | exact TakeL.nil | apply TakeL.cons | exact Take.head | apply Take.tail)); done))))
    exact ⟨rfl, rfl⟩
  rw [if_pos hk] at hp
  subst hp
  rw [hk]
  have k1 := c1_s b
  have k2 := c2_s b
  have k3 := c3_s b
  repeat first
    | (apply WL.q; exact rfl; exact rfl; exact rfl; (first | (apply EvW.move; exact rfl) | (apply EvW.assign; exact rfl) | (apply EvW.notT; exact rfl)))
    | refine WC.seq ?_ | refine WC.region ?_ | refine WL.nil ?_ | refine WE.next ?_ | refine WC.skip ?_ | refine WE.out ?_ | refine WC.condF rfl ?_
  try refine WL.wanted rfl rfl rfl ?_
  apply WL.callA ([])
  · exact rfl
  · exact rfl
  · exact fun w => Try.call43 _ w
  · (focus ((repeat (first | exact TakeL.nil | apply TakeL.cons | exact Take.head | apply Take.tail)); done))
  · exact fun w1 S1 hS1 hs1 ho1 => read_spec b w1 S1 hS1
  rintro _ _ ⟨x, rfl, rfl⟩
  first | refine WL.app4 ?_ | refine WL.app3 ?_ | refine WL.app2 ?_ | refine WL.app1 ?_ | refine WL.app0 ?_ | skip
  repeat first
    | (apply WL.q; exact rfl; exact rfl; exact rfl; (first | (apply EvW.move; exact rfl) | (apply EvW.assign; exact rfl)))
    | refine WC.seq ?_ | refine WC.region ?_ | refine WL.nil ?_ | refine WE.next ?_
  try refine WL.wanted rfl rfl rfl ?_
  apply WL.callA ([.blk x #[i64 (PR.mk 0 b).e, str (PR.mk 0 b).s] 101])
  · exact rfl
  · exact rfl
  · exact fun w => Try.call44 _ w
  · (focus ((repeat (first | exact TakeL.nil | apply TakeL.cons | exact Take.head | apply Take.tail)); done))
  · exact fun w1 S1 hS1 hs1 ho1 => rbyte_spec x (PR.mk 0 b) w1 S1 hS1 (by simp; omega)
  rintro _ _ ⟨rfl, rfl⟩
  first | refine WL.app4 ?_ | refine WL.app3 ?_ | refine WL.app2 ?_ | refine WL.app1 ?_ | refine WL.app0 ?_ | skip
  rw [show (PR.mk 0 b).num 1 = c1 b from rfl]
  repeat first
    | (apply WL.q; exact rfl; exact rfl; exact rfl; (first | (apply EvW.move; exact rfl)))
  try refine WL.wanted rfl rfl rfl ?_
  apply WL.callA ([.blk x #[i64 ((c1 b).2).e, str ((c1 b).2).s] 101])
  · exact rfl
  · exact rfl
  · exact fun w => Try.call44 _ w
  · (focus ((repeat (first | exact TakeL.nil | apply TakeL.cons | exact Take.head | apply Take.tail)); done))
  · exact fun w1 S1 hS1 hs1 ho1 => rbyte_spec x (c1 b).2 w1 S1 hS1 (by omega)
  rintro _ _ ⟨rfl, rfl⟩
  first | refine WL.app4 ?_ | refine WL.app3 ?_ | refine WL.app2 ?_ | refine WL.app1 ?_ | refine WL.app0 ?_ | skip
  rw [show (c1 b).2.num 1 = c2 b from rfl]
  repeat first
    | (apply WL.q; exact rfl; exact rfl; exact rfl; (first | (apply EvW.move; exact rfl)))
  try refine WL.wanted rfl rfl rfl ?_
  apply WL.callA ([.blk x #[i64 ((c2 b).2).e, str ((c2 b).2).s] 101])
  · exact rfl
  · exact rfl
  · exact fun w => Try.call45 _ w
  · (focus ((repeat (first | exact TakeL.nil | apply TakeL.cons | exact Take.head | apply Take.tail)); done))
  · exact fun w1 S1 hS1 hs1 ho1 => rword_spec x (c2 b).2 w1 S1 hS1 (by omega)
  rintro _ _ ⟨rfl, rfl⟩
  first | refine WL.app4 ?_ | refine WL.app3 ?_ | refine WL.app2 ?_ | refine WL.app1 ?_ | refine WL.app0 ?_ | skip
  rw [show (c2 b).2.num 2 = c3 b from rfl]
  repeat first
    | (apply WL.q; exact rfl; exact rfl; exact rfl; (first | (apply EvW.move; exact rfl)))
  try refine WL.wanted rfl rfl rfl ?_
  apply WL.callA ([.blk x #[i64 ((c3 b).2).e, str ((c3 b).2).s] 101])
  · exact rfl
  · exact rfl
  · exact fun w => Try.call45 _ w
  · (focus ((repeat (first | exact TakeL.nil | apply TakeL.cons | exact Take.head | apply Take.tail)); done))
  · exact fun w1 S1 hS1 hs1 ho1 => rword_spec x (c3 b).2 w1 S1 hS1 (by omega)
  rintro _ _ ⟨rfl, rfl⟩
  first | refine WL.app4 ?_ | refine WL.app3 ?_ | refine WL.app2 ?_ | refine WL.app1 ?_ | refine WL.app0 ?_ | skip
  rw [show (c3 b).2.num 2 = c4 b from rfl]
  repeat first
    | (apply WL.q; exact rfl; exact rfl; exact rfl; (first | (apply EvW.assign; exact rfl) | (apply EvW.build; exact PlC.eq; exact ZvC.eq; exact rfl; exact rfl; (focus ((repeat (first | exact Fills.nil | (apply Fills.cons; exact rfl; (first | assumption | exact rfl); exact rfl) | exact SetMany.nil | apply SetMany.cons | apply SetMany.succ)); done)))))
    | refine WL.nil ?_ | refine WE.next ?_ | refine WC.ret ?_ | (apply WL.store; exact rfl; exact rfl; (first | assumption | exact rfl); exact SzC.eq; (first | assumption | exact rfl); (focus ((repeat (first | apply UpdC.head | apply UpdC.tail | exact SetMany.nil | apply SetMany.cons | apply SetMany.succ)); done)))
  (apply WE.retC2 (A' := []); exact rfl; exact rfl; exact rfl; (focus ((repeat (first | exact Take.head | apply Take.tail)); done)); exact AggC.eq; exact SzC.eq; exact fun _ h => h.keep (by (focus ((repeat (first | exact TakeL.nil | apply TakeL.cons | exact Take.head | apply Take.tail)); done))))
  exact ⟨rfl, rfl⟩
theorem rreadCommand_spec (l : List UInt8) (p : Cmd × Int) (w : World) (S : BSet) (hS : (sepL []).sat S w) (hl : l.length ≤ 140737488355328) (hp : rcF l = p) :
    Tri Try.prog 22 #[str l] w S fun u A => u = .tuple #[.agg #[i64 (p.1).k, i64 (p.1).s, i64 (p.1).n, i64 (p.1).v], i64 p.2] ∧ A = [] := by
  refine Tri.enter (l := [str l]) Try.func22 rfl Try.ntmps22 rfl [(0, str l)] (subA rfl) hS ?_
  unfold rcF at hp
  obtain ⟨b, e, hb⟩ : ∃ b e, openF l = (b, e) := ⟨_, _, rfl⟩
  rw [hb] at hp
  dsimp only at hp
  repeat first
    | refine WC.seq ?_ | refine WC.region ?_
  try refine WL.wanted rfl rfl rfl ?_
  (apply WL.alloc; exact rfl; exact ZvC.eq; exact rfl; intro r)
  repeat first
    | (apply WL.q; exact rfl; exact rfl; exact rfl; (first | (apply EvW.move; exact rfl) | (apply EvW.assign; exact rfl)))
    | refine WC.seq ?_ | refine WC.region ?_ | refine WL.nil ?_ | refine WE.next ?_
  try refine WL.wanted rfl rfl rfl ?_
  apply WL.callA ([])
  · exact rfl
  · exact rfl
  · exact fun w => Try.call46 _ w
  · (focus ((repeat (first | exact TakeL.nil | apply TakeL.cons | exact Take.head | apply Take.tail)); done))
  · exact fun w1 S1 hS1 hs1 ho1 => ropen_spec l w1 S1 hS1 (by omega)
  rintro _ _ ⟨rfl, rfl⟩
  first | refine WL.app4 ?_ | refine WL.app3 ?_ | refine WL.app2 ?_ | refine WL.app1 ?_ | refine WL.app0 ?_ | skip
  rw [hb]
  dsimp only
  by_cases he : e = 0
  rotate_left
  · rw [if_pos he] at hp
    subst hp
    repeat first
      | (apply WL.q; exact rfl; exact rfl; exact rfl; (first | (apply EvW.move; exact rfl) | (apply EvW.assign; exact rfl) | (apply EvW.extract; exact rfl; exact rfl) | (apply EvW.cmpT; exact rfl; exact rfl; exact rfl; omega) | (apply EvW.build; exact PlC.eq; exact ZvC.eq; exact rfl; exact rfl; (focus ((repeat (first | exact Fills.nil | (apply Fills.cons; exact rfl; (first | assumption | exact rfl); exact rfl) | exact SetMany.nil | apply SetMany.cons | apply SetMany.succ)); done)))))
      | refine WC.seq ?_ | refine WC.region ?_ | refine WL.nil ?_ | refine WE.next ?_ | refine WC.condT rfl ?_ | refine WC.ret ?_ | refine WE.passRet ?_ | (apply WL.store; exact rfl; exact rfl; (first | assumption | exact rfl); exact SzC.eq; (first | assumption | exact rfl); (focus ((repeat (first | apply UpdC.head | apply UpdC.tail | exact SetMany.nil | apply SetMany.cons | apply SetMany.succ)); done)))
    (apply WE.retC2 (A' := []); exact rfl; exact rfl; exact rfl; (focus ((repeat (first | exact Take.head | apply Take.tail)); done)); exact AggC.eq; exact SzC.eq; exact fun _ h => h.keep (by (focus ((repeat (first | exact TakeL.nil | apply TakeL.cons | exact Take.head | apply Take.tail)); done))))
    exact ⟨rfl, rfl⟩
  rw [if_neg (fun h => h he)] at hp
  by_cases h6 : (b.length : Int) = 6
  rotate_left
  · rw [if_pos h6] at hp
    subst hp
    repeat first
      | (apply WL.q; exact rfl; exact rfl; exact rfl; (first | (apply EvW.move; exact rfl) | (apply EvW.assign; exact rfl) | (apply EvW.extract; exact rfl; exact rfl) | (apply EvW.lenS; exact rfl; exact UndC.eq) | (apply EvW.cmpT; exact rfl; exact rfl; exact rfl; omega) | (apply EvW.cmpF; exact rfl; exact rfl; exact rfl; omega) | (apply EvW.build; exact PlC.eq; exact ZvC.eq; exact rfl; exact rfl; (focus ((repeat (first | exact Fills.nil | (apply Fills.cons; exact rfl; (first | assumption | exact rfl); exact rfl) | exact SetMany.nil | apply SetMany.cons | apply SetMany.succ)); done)))))
      | refine WC.seq ?_ | refine WC.region ?_ | refine WL.nil ?_ | refine WE.next ?_ | refine WC.skip ?_ | refine WC.condT rfl ?_ | refine WC.condF rfl ?_ | refine WC.ret ?_ | refine WE.passRet ?_ | (apply WL.store; exact rfl; exact rfl; (first | assumption | exact rfl); exact SzC.eq; (first | assumption | exact rfl); (focus ((repeat (first | apply UpdC.head | apply UpdC.tail | exact SetMany.nil | apply SetMany.cons | apply SetMany.succ)); done)))
    (apply WE.retC2 (A' := []); exact rfl; exact rfl; exact rfl; (focus ((repeat (first | exact Take.head | apply Take.tail)); done)); exact AggC.eq; exact SzC.eq; exact fun _ h => h.keep (by (focus ((repeat (first | exact TakeL.nil | apply TakeL.cons | exact Take.head | apply Take.tail)); done))))
    exact ⟨rfl, rfl⟩
  rw [if_neg (fun h => h h6)] at hp
  have k1 := c1_s b
  have k2 := c2_s b
  have k3 := c3_s b
  repeat first
    | (apply WL.q; exact rfl; exact rfl; exact rfl; (first | (apply EvW.move; exact rfl) | (apply EvW.assign; exact rfl) | (apply EvW.extract; exact rfl; exact rfl) | (apply EvW.lenS; exact rfl; exact UndC.eq) | (apply EvW.cmpF; exact rfl; exact rfl; exact rfl; omega) | (apply EvW.build; exact PlC.eq; exact ZvC.eq; exact rfl; exact rfl; (focus ((repeat (first | exact Fills.nil | (apply Fills.cons; exact rfl; (first | assumption | exact rfl); exact rfl) | exact SetMany.nil | apply SetMany.cons | apply SetMany.succ)); done)))))
    | refine WC.seq ?_ | refine WC.region ?_ | refine WL.nil ?_ | refine WE.next ?_ | refine WC.skip ?_ | refine WC.condF rfl ?_
  try refine WL.wanted rfl rfl rfl ?_
  (apply WL.box; exact rfl; exact rfl; exact rfl; intro x)
  repeat first
    | (apply WL.q; exact rfl; exact rfl; exact rfl; (first | (apply EvW.move; exact rfl) | (apply EvW.assign; exact rfl)))
    | refine WC.seq ?_ | refine WC.region ?_ | refine WL.nil ?_ | refine WE.next ?_
  try refine WL.wanted rfl rfl rfl ?_
  apply WL.callA ([.blk x #[str (PR.mk 0 b).s, .bool (decide ((PR.mk 0 b).e ≠ 0))] 78])
  · exact rfl
  · exact rfl
  · exact fun w => Try.call47 _ w
  · (focus ((repeat (first | exact TakeL.nil | apply TakeL.cons | exact Take.head | apply Take.tail)); done))
  · exact fun w1 S1 hS1 hs1 ho1 => rrnum_spec x (PR.mk 0 b) 1 (by decide) (.inl rfl) w1 S1 hS1 (by simp; omega)
  rintro _ _ ⟨rfl, rfl⟩
  first | refine WL.app4 ?_ | refine WL.app3 ?_ | refine WL.app2 ?_ | refine WL.app1 ?_ | refine WL.app0 ?_ | skip
  rw [show (PR.mk 0 b).num 1 = c1 b from rfl]
  repeat first
    | (apply WL.q; exact rfl; exact rfl; exact rfl; (first | (apply EvW.move; exact rfl)))
  try refine WL.wanted rfl rfl rfl ?_
  apply WL.callA ([.blk x #[str ((c1 b).2).s, .bool (decide (((c1 b).2).e ≠ 0))] 78])
  · exact rfl
  · exact rfl
  · exact fun w => Try.call47 _ w
  · (focus ((repeat (first | exact TakeL.nil | apply TakeL.cons | exact Take.head | apply Take.tail)); done))
  · exact fun w1 S1 hS1 hs1 ho1 => rrnum_spec x (c1 b).2 1 (by decide) k1.2 w1 S1 hS1 (by omega)
  rintro _ _ ⟨rfl, rfl⟩
  first | refine WL.app4 ?_ | refine WL.app3 ?_ | refine WL.app2 ?_ | refine WL.app1 ?_ | refine WL.app0 ?_ | skip
  rw [show (c1 b).2.num 1 = c2 b from rfl]
  repeat first
    | (apply WL.q; exact rfl; exact rfl; exact rfl; (first | (apply EvW.move; exact rfl)))
  try refine WL.wanted rfl rfl rfl ?_
  apply WL.callA ([.blk x #[str ((c2 b).2).s, .bool (decide (((c2 b).2).e ≠ 0))] 78])
  · exact rfl
  · exact rfl
  · exact fun w => Try.call47 _ w
  · (focus ((repeat (first | exact TakeL.nil | apply TakeL.cons | exact Take.head | apply Take.tail)); done))
  · exact fun w1 S1 hS1 hs1 ho1 => rrnum_spec x (c2 b).2 2 (by decide) k2.2 w1 S1 hS1 (by omega)
  rintro _ _ ⟨rfl, rfl⟩
  first | refine WL.app4 ?_ | refine WL.app3 ?_ | refine WL.app2 ?_ | refine WL.app1 ?_ | refine WL.app0 ?_ | skip
  rw [show (c2 b).2.num 2 = c3 b from rfl]
  repeat first
    | (apply WL.q; exact rfl; exact rfl; exact rfl; (first | (apply EvW.move; exact rfl)))
  try refine WL.wanted rfl rfl rfl ?_
  apply WL.callA ([.blk x #[str ((c3 b).2).s, .bool (decide (((c3 b).2).e ≠ 0))] 78])
  · exact rfl
  · exact rfl
  · exact fun w => Try.call47 _ w
  · (focus ((repeat (first | exact TakeL.nil | apply TakeL.cons | exact Take.head | apply Take.tail)); done))
  · exact fun w1 S1 hS1 hs1 ho1 => rrnum_spec x (c3 b).2 2 (by decide) k3.2 w1 S1 hS1 (by omega)
  rintro _ _ ⟨rfl, rfl⟩
  first | refine WL.app4 ?_ | refine WL.app3 ?_ | refine WL.app2 ?_ | refine WL.app1 ?_ | refine WL.app0 ?_ | skip
  rw [show (c3 b).2.num 2 = c4 b from rfl]
  repeat first
    | (apply WL.q; exact rfl; exact rfl; exact rfl; (first | (apply EvW.build; exact PlC.eq; exact ZvC.eq; exact rfl; exact rfl; (focus ((repeat (first | exact Fills.nil | (apply Fills.cons; exact rfl; (first | assumption | exact rfl); exact rfl) | exact SetMany.nil | apply SetMany.cons | apply SetMany.succ)); done)))))
  try refine WL.wanted rfl rfl rfl ?_
  (apply WL.alloc; exact rfl; exact ZvC.eq; exact rfl; intro y)
  repeat first
    | (apply WL.q; exact rfl; exact rfl; exact rfl; (first | (apply EvW.fieldAddr0; exact rfl; exact FldC.eq) | (apply EvW.load; exact rfl; exact ScalC.eq; (focus ((repeat (first | exact Take.head | apply Take.tail)); done)); exact rfl)))
    | refine WC.seq ?_ | refine WC.region ?_ | refine WL.nil ?_ | refine WE.next ?_ | (apply WL.store; exact rfl; exact rfl; (first | assumption | exact rfl); exact SzC.eq; (first | assumption | exact rfl); (focus ((repeat (first | apply UpdC.head | apply UpdC.tail | exact SetMany.nil | apply SetMany.cons | apply SetMany.succ)); done)))
  try refine WL.wanted rfl rfl rfl ?_
  apply WL.callA ([])
  · exact rfl
  · exact rfl
  · exact fun w => Try.call31 _ w
  · (focus ((repeat (first | exact TakeL.nil | apply TakeL.cons | exact Take.head | apply Take.tail)); done))
  · exact fun w1 S1 hS1 hs1 ho1 => rkind_spec (c1 b).1 w1 S1 hS1
  rintro _ _ ⟨rfl, rfl⟩
  first | refine WL.app4 ?_ | refine WL.app3 ?_ | refine WL.app2 ?_ | refine WL.app1 ?_ | refine WL.app0 ?_ | skip
  by_cases hk : btw (c1 b).1 1 11 = true
  rotate_left
  · rw [if_neg hk] at hp
    subst hp
    rw [show btw (c1 b).1 1 11 = false by simpa using hk]
    repeat first
      | (apply WL.q; exact rfl; exact rfl; exact rfl; (first | (apply EvW.assign; exact rfl) | (apply EvW.notF; exact rfl) | (apply EvW.build; exact PlC.eq; exact ZvC.eq; exact rfl; exact rfl; (focus ((repeat (first | exact Fills.nil | (apply Fills.cons; exact rfl; (first | assumption | exact rfl); exact rfl) | exact SetMany.nil | apply SetMany.cons | apply SetMany.succ)); done)))))
      | refine WC.seq ?_ | refine WC.region ?_ | refine WL.nil ?_ | refine WE.next ?_ | refine WC.condT rfl ?_ | refine WC.ret ?_ | refine WE.passRet ?_ | (apply WL.store; exact rfl; exact rfl; (first | assumption | exact rfl); exact SzC.eq; (first | assumption | exact rfl); (focus ((repeat (first | apply UpdC.head | apply UpdC.tail | exact SetMany.nil | apply SetMany.cons | apply SetMany.succ)); done)))
    (apply WE.retC2 (A' := []); exact rfl; exact rfl; exact rfl; (focus ((repeat (first | exact Take.head | apply Take.tail)); done)); exact AggC.eq; exact SzC.eq; exact fun _ h => h.keep (by (focus ((repeat (first | exact TakeL.nil | apply TakeL.cons | exact Take.head | apply Take.tail)); done))))
    exact ⟨rfl, rfl⟩
  rw [if_pos hk] at hp
  subst hp
  rw [hk]
  repeat first
    | (apply WL.q; exact rfl; exact rfl; exact rfl; (first | (apply EvW.assign; exact rfl) | (apply EvW.notT; exact rfl) | (apply EvW.loadAgg; exact rfl; exact AggC.eq; exact SzC.eq; (focus ((repeat (first | exact Take.head | apply Take.tail)); done)); (focus ((repeat (first | exact SubL.nil | apply SubL.cons | apply SubL.succ)); done)))))
    | refine WC.seq ?_ | refine WC.region ?_ | refine WL.nil ?_ | refine WE.next ?_ | refine WC.skip ?_ | refine WC.condF rfl ?_ | refine WC.ret ?_ | (apply WL.store; exact rfl; exact rfl; (first | assumption | exact rfl); exact SzC.eq; (first | assumption | exact rfl); (focus ((repeat (first | apply UpdC.head | apply UpdC.tail | exact SetMany.nil | apply SetMany.cons | apply SetMany.succ)); done)))
  (apply WE.retC2 (A' := []); exact rfl; exact rfl; exact rfl; (focus ((repeat (first | exact Take.head | apply Take.tail)); done)); exact AggC.eq; exact SzC.eq; exact fun _ h => h.keep (by (focus ((repeat (first | exact TakeL.nil | apply TakeL.cons | exact Take.head | apply Take.tail)); done))))
  exact ⟨rfl, rfl⟩
theorem readReply_spec (l : List UInt8) (p : Rep × Int) (w : World) (S : BSet) (hS : (sepL []).sat S w) (hl : l.length ≤ 140737488355328) (hp : rpF l = p) :
    Tri Try.prog 23 #[str l] w S fun u A => u = .tuple #[.agg #[i64 (p.1).c, i64 (p.1).v], i64 p.2] ∧ A = [] := by
  refine Tri.enter (l := [str l]) Try.func23 rfl Try.ntmps23 rfl [(0, str l)] (subA rfl) hS ?_
  unfold rpF at hp
  obtain ⟨b, e, hb⟩ : ∃ b e, openF l = (b, e) := ⟨_, _, rfl⟩
  rw [hb] at hp
  dsimp only at hp
  repeat first
    | refine WC.seq ?_ | refine WC.region ?_
  try refine WL.wanted rfl rfl rfl ?_
  (apply WL.alloc; exact rfl; exact ZvC.eq; exact rfl; intro r)
  repeat first
    | (apply WL.q; exact rfl; exact rfl; exact rfl; (first | (apply EvW.move; exact rfl) | (apply EvW.assign; exact rfl)))
    | refine WC.seq ?_ | refine WC.region ?_ | refine WL.nil ?_ | refine WE.next ?_
  try refine WL.wanted rfl rfl rfl ?_
  apply WL.callA ([])
  · exact rfl
  · exact rfl
  · exact fun w => Try.call42 _ w
  · (focus ((repeat (first | exact TakeL.nil | apply TakeL.cons | exact Take.head | apply Take.tail)); done))
  · exact fun w1 S1 hS1 hs1 ho1 => open_spec l w1 S1 hS1 (by omega)
  rintro _ _ ⟨rfl, rfl⟩
  first | refine WL.app4 ?_ | refine WL.app3 ?_ | refine WL.app2 ?_ | refine WL.app1 ?_ | refine WL.app0 ?_ | skip
  rw [hb]
  dsimp only
  by_cases he : e = 0
  rotate_left
  · rw [if_pos he] at hp
    subst hp
    repeat first
      | (apply WL.q; exact rfl; exact rfl; exact rfl; (first | (apply EvW.move; exact rfl) | (apply EvW.assign; exact rfl) | (apply EvW.extract; exact rfl; exact rfl) | (apply EvW.cmpT; exact rfl; exact rfl; exact rfl; omega) | (apply EvW.build; exact PlC.eq; exact ZvC.eq; exact rfl; exact rfl; (focus ((repeat (first | exact Fills.nil | (apply Fills.cons; exact rfl; (first | assumption | exact rfl); exact rfl) | exact SetMany.nil | apply SetMany.cons | apply SetMany.succ)); done)))))
      | refine WC.seq ?_ | refine WC.region ?_ | refine WL.nil ?_ | refine WE.next ?_ | refine WC.block ?_ | refine WC.condT rfl ?_ | refine WC.ret ?_ | refine WE.passRet ?_ | refine WE.outRet ?_ | (apply WL.store; exact rfl; exact rfl; (first | assumption | exact rfl); exact SzC.eq; (first | assumption | exact rfl); (focus ((repeat (first | apply UpdC.head | apply UpdC.tail | exact SetMany.nil | apply SetMany.cons | apply SetMany.succ)); done)))
    (apply WE.retC2 (A' := []); exact rfl; exact rfl; exact rfl; (focus ((repeat (first | exact Take.head | apply Take.tail)); done)); exact AggC.eq; exact SzC.eq; exact fun _ h => h.keep (by (focus ((repeat (first | exact TakeL.nil | apply TakeL.cons | exact Take.head | apply Take.tail)); done))))
    exact ⟨rfl, rfl⟩
  rw [if_neg (fun h => h he)] at hp
  by_cases h6 : (b.length : Int) = 6
  rotate_left
  · rw [if_pos h6] at hp
    subst hp
    repeat first
      | (apply WL.q; exact rfl; exact rfl; exact rfl; (first | (apply EvW.move; exact rfl) | (apply EvW.assign; exact rfl) | (apply EvW.extract; exact rfl; exact rfl) | (apply EvW.lenS; exact rfl; exact UndC.eq) | (apply EvW.cmpT; exact rfl; exact rfl; exact rfl; omega) | (apply EvW.cmpF; exact rfl; exact rfl; exact rfl; omega) | (apply EvW.pickT; exact rfl; exact rfl) | (apply EvW.build; exact PlC.eq; exact ZvC.eq; exact rfl; exact rfl; (focus ((repeat (first | exact Fills.nil | (apply Fills.cons; exact rfl; (first | assumption | exact rfl); exact rfl) | exact SetMany.nil | apply SetMany.cons | apply SetMany.succ)); done)))))
      | refine WC.seq ?_ | refine WC.region ?_ | refine WL.nil ?_ | refine WE.next ?_ | refine WC.block ?_ | refine WC.condT rfl ?_ | refine WC.condF rfl ?_ | refine WC.ret ?_ | refine WE.passRet ?_ | refine WE.outRet ?_ | refine WL.unwanted rfl rfl rfl rfl ?_ | (apply WL.store; exact rfl; exact rfl; (first | assumption | exact rfl); exact SzC.eq; (first | assumption | exact rfl); (focus ((repeat (first | apply UpdC.head | apply UpdC.tail | exact SetMany.nil | apply SetMany.cons | apply SetMany.succ)); done)))
    (apply WE.retC2 (A' := []); exact rfl; exact rfl; exact rfl; (focus ((repeat (first | exact Take.head | apply Take.tail)); done)); exact AggC.eq; exact SzC.eq; exact fun _ h => h.keep (by (focus ((repeat (first | exact TakeL.nil | apply TakeL.cons | exact Take.head | apply Take.tail)); done))))
    exact ⟨rfl, rfl⟩
  rw [if_neg (fun h => h h6)] at hp
  have h1 := num1_at b (by omega)
  have h1' : (c1 b).1 = ((b.getD 0 0).toNat : Int) := by rw [h1]
  by_cases hk : ((b.getD (0 : Int).toNat 0).toNat : Int) = 100
  rotate_left
  · rw [if_neg (by rw [h1']; exact hk)] at hp
    subst hp
    repeat first
      | (apply WL.q; exact rfl; exact rfl; exact rfl; (first | (apply EvW.move; exact rfl) | (apply EvW.assign; exact rfl) | (apply EvW.extract; exact rfl; exact rfl) | (apply EvW.lenS; exact rfl; exact UndC.eq) | (apply EvW.cmpT; exact rfl; exact rfl; exact rfl; omega) | (apply EvW.cmpF; exact rfl; exact rfl; exact rfl; omega) | (apply EvW.pickF; exact rfl; exact rfl) | (apply EvW.index; exact rfl; exact rfl; exact UndC.eq; omega; omega) | (apply EvW.build; exact PlC.eq; exact ZvC.eq; exact rfl; exact rfl; (focus ((repeat (first | exact Fills.nil | (apply Fills.cons; exact rfl; (first | assumption | exact rfl); exact rfl) | exact SetMany.nil | apply SetMany.cons | apply SetMany.succ)); done)))))
      | refine WC.seq ?_ | refine WC.region ?_ | refine WL.nil ?_ | refine WE.next ?_ | refine WC.block ?_ | refine WC.condT rfl ?_ | refine WC.condF rfl ?_ | refine WC.ret ?_ | refine WE.passRet ?_ | refine WE.outRet ?_ | refine WL.wanted rfl rfl rfl ?_ | (apply WL.store; exact rfl; exact rfl; (first | assumption | exact rfl); exact SzC.eq; (first | assumption | exact rfl); (focus ((repeat (first | apply UpdC.head | apply UpdC.tail | exact SetMany.nil | apply SetMany.cons | apply SetMany.succ)); done)))
    (apply WE.retC2 (A' := []); exact rfl; exact rfl; exact rfl; (focus ((repeat (first | exact Take.head | apply Take.tail)); done)); exact AggC.eq; exact SzC.eq; exact fun _ h => h.keep (by (focus ((repeat (first | exact TakeL.nil | apply TakeL.cons | exact Take.head | apply Take.tail)); done))))
    exact ⟨rfl, rfl⟩
  rw [if_pos (by rw [h1']; exact hk)] at hp
  subst hp
  have k1 := c1_s b
  have k2 := c2_s b
  have hc : (c1 b).2 = PR.mk 0 (b.drop 1) := by rw [h1]
  repeat first
    | (apply WL.q; exact rfl; exact rfl; exact rfl; (first | (apply EvW.move; exact rfl) | (apply EvW.assign; exact rfl) | (apply EvW.extract; exact rfl; exact rfl) | (apply EvW.lenS; exact rfl; exact UndC.eq) | (apply EvW.cmpF; exact rfl; exact rfl; exact rfl; omega) | (apply EvW.pickF; exact rfl; exact rfl) | (apply EvW.index; exact rfl; exact rfl; exact UndC.eq; omega; omega) | (apply EvW.sliceS_lo; exact rfl; exact UndC.eq; exact rfl; omega; omega)))
    | refine WC.seq ?_ | refine WC.region ?_ | refine WL.nil ?_ | refine WE.next ?_ | refine WC.block ?_ | refine WC.skip ?_ | refine WE.out ?_ | refine WC.condF rfl ?_ | refine WL.wanted rfl rfl rfl ?_
  try refine WL.wanted rfl rfl rfl ?_
  apply WL.callA ([])
  · exact rfl
  · exact rfl
  · exact fun w => Try.call43 _ w
  · (focus ((repeat (first | exact TakeL.nil | apply TakeL.cons | exact Take.head | apply Take.tail)); done))
  · exact fun w1 S1 hS1 hs1 ho1 => read_spec (b.drop 1) w1 S1 hS1
  rintro _ _ ⟨x, rfl, rfl⟩
  first | refine WL.app4 ?_ | refine WL.app3 ?_ | refine WL.app2 ?_ | refine WL.app1 ?_ | refine WL.app0 ?_ | skip
  repeat first
    | (apply WL.q; exact rfl; exact rfl; exact rfl; (first | (apply EvW.move; exact rfl) | (apply EvW.assign; exact rfl)))
    | refine WC.seq ?_ | refine WC.region ?_ | refine WL.nil ?_ | refine WE.next ?_
  try refine WL.wanted rfl rfl rfl ?_
  apply WL.callA ([.blk x #[i64 (PR.mk 0 (b.drop 1)).e, str (PR.mk 0 (b.drop 1)).s] 101])
  · exact rfl
  · exact rfl
  · exact fun w => Try.call44 _ w
  · (focus ((repeat (first | exact TakeL.nil | apply TakeL.cons | exact Take.head | apply Take.tail)); done))
  · exact fun w1 S1 hS1 hs1 ho1 => rbyte_spec x (PR.mk 0 (b.drop 1)) w1 S1 hS1 (by simp only [List.length_drop]; omega)
  rintro _ _ ⟨rfl, rfl⟩
  first | refine WL.app4 ?_ | refine WL.app3 ?_ | refine WL.app2 ?_ | refine WL.app1 ?_ | refine WL.app0 ?_ | skip
  rw [show (PR.mk 0 (b.drop 1)).num 1 = c2 b from by unfold c2; rw [hc]]
  repeat first
    | (apply WL.q; exact rfl; exact rfl; exact rfl; (first | (apply EvW.move; exact rfl)))
  try refine WL.wanted rfl rfl rfl ?_
  apply WL.callA ([.blk x #[i64 ((c2 b).2).e, str ((c2 b).2).s] 101])
  · exact rfl
  · exact rfl
  · exact fun w => Try.call48 _ w
  · (focus ((repeat (first | exact TakeL.nil | apply TakeL.cons | exact Take.head | apply Take.tail)); done))
  · exact fun w1 S1 hS1 hs1 ho1 => rlong_spec x (c2 b).2 w1 S1 hS1 (by omega)
  rintro _ _ ⟨rfl, rfl⟩
  first | refine WL.app4 ?_ | refine WL.app3 ?_ | refine WL.app2 ?_ | refine WL.app1 ?_ | refine WL.app0 ?_ | skip
  rw [show (c2 b).2.num 4 = d3 b from rfl]
  repeat first
    | (apply WL.q; exact rfl; exact rfl; exact rfl; (first | (apply EvW.assign; exact rfl) | (apply EvW.build; exact PlC.eq; exact ZvC.eq; exact rfl; exact rfl; (focus ((repeat (first | exact Fills.nil | (apply Fills.cons; exact rfl; (first | assumption | exact rfl); exact rfl) | exact SetMany.nil | apply SetMany.cons | apply SetMany.succ)); done)))))
    | refine WL.nil ?_ | refine WE.next ?_ | refine WC.ret ?_ | (apply WL.store; exact rfl; exact rfl; (first | assumption | exact rfl); exact SzC.eq; (first | assumption | exact rfl); (focus ((repeat (first | apply UpdC.head | apply UpdC.tail | exact SetMany.nil | apply SetMany.cons | apply SetMany.succ)); done)))
  (apply WE.retC2 (A' := []); exact rfl; exact rfl; exact rfl; (focus ((repeat (first | exact Take.head | apply Take.tail)); done)); exact AggC.eq; exact SzC.eq; exact fun _ h => h.keep (by (focus ((repeat (first | exact TakeL.nil | apply TakeL.cons | exact Take.head | apply Take.tail)); done))))
  exact ⟨rfl, rfl⟩
theorem rreadReply_spec (l : List UInt8) (p : Rep × Int) (w : World) (S : BSet) (hS : (sepL []).sat S w) (hl : l.length ≤ 140737488355328) (hp : rpF l = p) :
    Tri Try.prog 24 #[str l] w S fun u A => u = .tuple #[.agg #[i64 (p.1).c, i64 (p.1).v], i64 p.2] ∧ A = [] := by
  refine Tri.enter (l := [str l]) Try.func24 rfl Try.ntmps24 rfl [(0, str l)] (subA rfl) hS ?_
  unfold rpF at hp
  obtain ⟨b, e, hb⟩ : ∃ b e, openF l = (b, e) := ⟨_, _, rfl⟩
  rw [hb] at hp
  dsimp only at hp
  repeat first
    | refine WC.seq ?_ | refine WC.region ?_
  try refine WL.wanted rfl rfl rfl ?_
  (apply WL.alloc; exact rfl; exact ZvC.eq; exact rfl; intro r)
  repeat first
    | (apply WL.q; exact rfl; exact rfl; exact rfl; (first | (apply EvW.move; exact rfl) | (apply EvW.assign; exact rfl)))
    | refine WC.seq ?_ | refine WC.region ?_ | refine WL.nil ?_ | refine WE.next ?_
  try refine WL.wanted rfl rfl rfl ?_
  apply WL.callA ([])
  · exact rfl
  · exact rfl
  · exact fun w => Try.call46 _ w
  · (focus ((repeat (first | exact TakeL.nil | apply TakeL.cons | exact Take.head | apply Take.tail)); done))
  · exact fun w1 S1 hS1 hs1 ho1 => ropen_spec l w1 S1 hS1 (by omega)
  rintro _ _ ⟨rfl, rfl⟩
  first | refine WL.app4 ?_ | refine WL.app3 ?_ | refine WL.app2 ?_ | refine WL.app1 ?_ | refine WL.app0 ?_ | skip
  rw [hb]
  dsimp only
  by_cases he : e = 0
  rotate_left
  · rw [if_pos he] at hp
    subst hp
    repeat first
      | (apply WL.q; exact rfl; exact rfl; exact rfl; (first | (apply EvW.move; exact rfl) | (apply EvW.assign; exact rfl) | (apply EvW.extract; exact rfl; exact rfl) | (apply EvW.cmpT; exact rfl; exact rfl; exact rfl; omega) | (apply EvW.build; exact PlC.eq; exact ZvC.eq; exact rfl; exact rfl; (focus ((repeat (first | exact Fills.nil | (apply Fills.cons; exact rfl; (first | assumption | exact rfl); exact rfl) | exact SetMany.nil | apply SetMany.cons | apply SetMany.succ)); done)))))
      | refine WC.seq ?_ | refine WC.region ?_ | refine WL.nil ?_ | refine WE.next ?_ | refine WC.condT rfl ?_ | refine WC.ret ?_ | refine WE.passRet ?_ | (apply WL.store; exact rfl; exact rfl; (first | assumption | exact rfl); exact SzC.eq; (first | assumption | exact rfl); (focus ((repeat (first | apply UpdC.head | apply UpdC.tail | exact SetMany.nil | apply SetMany.cons | apply SetMany.succ)); done)))
    (apply WE.retC2 (A' := []); exact rfl; exact rfl; exact rfl; (focus ((repeat (first | exact Take.head | apply Take.tail)); done)); exact AggC.eq; exact SzC.eq; exact fun _ h => h.keep (by (focus ((repeat (first | exact TakeL.nil | apply TakeL.cons | exact Take.head | apply Take.tail)); done))))
    exact ⟨rfl, rfl⟩
  rw [if_neg (fun h => h he)] at hp
  have hbl := (openF_ok (show openF l = (b, 0) by rw [hb, he])).2
  have k1 := c1_s b
  have k2 := c2_s b
  have k3 := d3_s b
  have k6 := fin_six b
  repeat first
    | (apply WL.q; exact rfl; exact rfl; exact rfl; (first | (apply EvW.move; exact rfl) | (apply EvW.assign; exact rfl) | (apply EvW.extract; exact rfl; exact rfl) | (apply EvW.cmpF; exact rfl; exact rfl; exact rfl; omega) | (apply EvW.build; exact PlC.eq; exact ZvC.eq; exact rfl; exact rfl; (focus ((repeat (first | exact Fills.nil | (apply Fills.cons; exact rfl; (first | assumption | exact rfl); exact rfl) | exact SetMany.nil | apply SetMany.cons | apply SetMany.succ)); done)))))
    | refine WC.seq ?_ | refine WC.region ?_ | refine WL.nil ?_ | refine WE.next ?_ | refine WC.skip ?_ | refine WC.condF rfl ?_
  try refine WL.wanted rfl rfl rfl ?_
  (apply WL.box; exact rfl; exact rfl; exact rfl; intro x)
  repeat first
    | (apply WL.q; exact rfl; exact rfl; exact rfl; (first | (apply EvW.move; exact rfl) | (apply EvW.assign; exact rfl)))
    | refine WC.seq ?_ | refine WC.region ?_ | refine WL.nil ?_ | refine WE.next ?_
  try refine WL.wanted rfl rfl rfl ?_
  apply WL.callA ([.blk x #[str (PR.mk 0 b).s, .bool (decide ((PR.mk 0 b).e ≠ 0))] 78])
  · exact rfl
  · exact rfl
  · exact fun w => Try.call47 _ w
  · (focus ((repeat (first | exact TakeL.nil | apply TakeL.cons | exact Take.head | apply Take.tail)); done))
  · exact fun w1 S1 hS1 hs1 ho1 => rrnum_spec x (PR.mk 0 b) 1 (by decide) (.inl rfl) w1 S1 hS1 (by simp; omega)
  rintro _ _ ⟨rfl, rfl⟩
  first | refine WL.app4 ?_ | refine WL.app3 ?_ | refine WL.app2 ?_ | refine WL.app1 ?_ | refine WL.app0 ?_ | skip
  rw [show (PR.mk 0 b).num 1 = c1 b from rfl]
  repeat first
    | (apply WL.q; exact rfl; exact rfl; exact rfl; (first | (apply EvW.move; exact rfl) | (apply EvW.assign; exact rfl)))
    | refine WC.seq ?_ | refine WC.region ?_ | refine WL.nil ?_ | refine WE.next ?_
  try refine WL.wanted rfl rfl rfl ?_
  apply WL.callA ([.blk x #[str ((c1 b).2).s, .bool (decide (((c1 b).2).e ≠ 0))] 78])
  · exact rfl
  · exact rfl
  · exact fun w => Try.call47 _ w
  · (focus ((repeat (first | exact TakeL.nil | apply TakeL.cons | exact Take.head | apply Take.tail)); done))
  · exact fun w1 S1 hS1 hs1 ho1 => rrnum_spec x (c1 b).2 1 (by decide) k1.2 w1 S1 hS1 (by omega)
  rintro _ _ ⟨rfl, rfl⟩
  first | refine WL.app4 ?_ | refine WL.app3 ?_ | refine WL.app2 ?_ | refine WL.app1 ?_ | refine WL.app0 ?_ | skip
  rw [show (c1 b).2.num 1 = c2 b from rfl]
  repeat first
    | (apply WL.q; exact rfl; exact rfl; exact rfl; (first | (apply EvW.move; exact rfl) | (apply EvW.assign; exact rfl)))
    | refine WC.seq ?_ | refine WC.region ?_ | refine WL.nil ?_ | refine WE.next ?_
  try refine WL.wanted rfl rfl rfl ?_
  apply WL.callA ([.blk x #[str ((c2 b).2).s, .bool (decide (((c2 b).2).e ≠ 0))] 78])
  · exact rfl
  · exact rfl
  · exact fun w => Try.call47 _ w
  · (focus ((repeat (first | exact TakeL.nil | apply TakeL.cons | exact Take.head | apply Take.tail)); done))
  · exact fun w1 S1 hS1 hs1 ho1 => rrnum_spec x (c2 b).2 4 (by decide) k2.2 w1 S1 hS1 (by omega)
  rintro _ _ ⟨rfl, rfl⟩
  first | refine WL.app4 ?_ | refine WL.app3 ?_ | refine WL.app2 ?_ | refine WL.app1 ?_ | refine WL.app0 ?_ | skip
  rw [show (c2 b).2.num 4 = d3 b from rfl]
  by_cases hk : (c1 b).1 = 100
  rotate_left
  · have : p = (⟨0, 0⟩, 3) := by
      split at hp
      · exact hp.symm
      · exact hp.symm
    subst this
    repeat first
      | (apply WL.q; exact rfl; exact rfl; exact rfl; (first | (apply EvW.move; exact rfl) | (apply EvW.assign; exact rfl) | (apply EvW.cmpT; exact rfl; exact rfl; exact rfl; omega) | (apply EvW.pickT; exact rfl; exact rfl) | (apply EvW.build; exact PlC.eq; exact ZvC.eq; exact rfl; exact rfl; (focus ((repeat (first | exact Fills.nil | (apply Fills.cons; exact rfl; (first | assumption | exact rfl); exact rfl) | exact SetMany.nil | apply SetMany.cons | apply SetMany.succ)); done)))))
      | refine WC.seq ?_ | refine WC.region ?_ | refine WL.nil ?_ | refine WE.next ?_ | refine WC.condT rfl ?_ | refine WC.ret ?_ | refine WE.passRet ?_ | refine WL.unwanted rfl rfl rfl rfl ?_ | (apply WL.store; exact rfl; exact rfl; (first | assumption | exact rfl); exact SzC.eq; (first | assumption | exact rfl); (focus ((repeat (first | apply UpdC.head | apply UpdC.tail | exact SetMany.nil | apply SetMany.cons | apply SetMany.succ)); done)))
    (apply WE.retC2 (A' := []); exact rfl; exact rfl; exact rfl; (focus ((repeat (first | exact Take.head | apply Take.tail)); done)); exact AggC.eq; exact SzC.eq; exact fun _ h => h.keep (by (focus ((repeat (first | exact TakeL.nil | apply TakeL.cons | exact Take.head | apply Take.tail)); done))))
    exact ⟨rfl, rfl⟩
  by_cases h6 : (d3 b).2.fin = 0
  rotate_left
  · rw [if_pos (fun h => h6 (k6.2 (by omega)))] at hp
    subst hp
    repeat first
      | (apply WL.q; exact rfl; exact rfl; exact rfl; (first | (apply EvW.move; exact rfl) | (apply EvW.assign; exact rfl) | (apply EvW.cmpF; exact rfl; exact rfl; exact rfl; omega)))
      | refine WC.seq ?_ | refine WC.region ?_ | refine WL.nil ?_ | refine WE.next ?_ | refine WL.wanted rfl rfl rfl ?_
    try refine WL.wanted rfl rfl rfl ?_
    apply WL.callA ([.blk x #[str ((d3 b).2).s, .bool (decide (((d3 b).2).e ≠ 0))] 78])
    · exact rfl
    · exact rfl
    · exact fun w => Try.call49 _ w
    · (focus ((repeat (first | exact TakeL.nil | apply TakeL.cons | exact Take.head | apply Take.tail)); done))
    · exact fun w1 S1 hS1 hs1 ho1 => rrend_spec x (d3 b).2 k3.2 w1 S1 hS1 (by omega)
    rintro _ _ ⟨rfl, rfl⟩
    first | refine WL.app4 ?_ | refine WL.app3 ?_ | refine WL.app2 ?_ | refine WL.app1 ?_ | refine WL.app0 ?_ | skip
    repeat first
      | (apply WL.q; exact rfl; exact rfl; exact rfl; (first | (apply EvW.assign; exact rfl) | (apply EvW.cmpT; exact rfl; exact rfl; exact rfl; omega) | (apply EvW.pickF; exact rfl; exact rfl) | (apply EvW.build; exact PlC.eq; exact ZvC.eq; exact rfl; exact rfl; (focus ((repeat (first | exact Fills.nil | (apply Fills.cons; exact rfl; (first | assumption | exact rfl); exact rfl) | exact SetMany.nil | apply SetMany.cons | apply SetMany.succ)); done)))))
      | refine WC.seq ?_ | refine WC.region ?_ | refine WL.nil ?_ | refine WE.next ?_ | refine WC.condT rfl ?_ | refine WC.ret ?_ | refine WE.passRet ?_ | refine WL.wanted rfl rfl rfl ?_ | (apply WL.store; exact rfl; exact rfl; (first | assumption | exact rfl); exact SzC.eq; (first | assumption | exact rfl); (focus ((repeat (first | apply UpdC.head | apply UpdC.tail | exact SetMany.nil | apply SetMany.cons | apply SetMany.succ)); done)))
    (apply WE.retC2 (A' := []); exact rfl; exact rfl; exact rfl; (focus ((repeat (first | exact Take.head | apply Take.tail)); done)); exact AggC.eq; exact SzC.eq; exact fun _ h => h.keep (by (focus ((repeat (first | exact TakeL.nil | apply TakeL.cons | exact Take.head | apply Take.tail)); done))))
    exact ⟨rfl, rfl⟩
  · rw [if_neg (fun h => h (by rw [k6.1 h6]; rfl)), if_pos hk] at hp
    subst hp
    repeat first
      | (apply WL.q; exact rfl; exact rfl; exact rfl; (first | (apply EvW.move; exact rfl) | (apply EvW.assign; exact rfl) | (apply EvW.cmpF; exact rfl; exact rfl; exact rfl; omega)))
      | refine WC.seq ?_ | refine WC.region ?_ | refine WL.nil ?_ | refine WE.next ?_ | refine WL.wanted rfl rfl rfl ?_
    try refine WL.wanted rfl rfl rfl ?_
    apply WL.callA ([.blk x #[str ((d3 b).2).s, .bool (decide (((d3 b).2).e ≠ 0))] 78])
    · exact rfl
    · exact rfl
    · exact fun w => Try.call49 _ w
    · (focus ((repeat (first | exact TakeL.nil | apply TakeL.cons | exact Take.head | apply Take.tail)); done))
    · exact fun w1 S1 hS1 hs1 ho1 => rrend_spec x (d3 b).2 k3.2 w1 S1 hS1 (by omega)
    rintro _ _ ⟨rfl, rfl⟩
    first | refine WL.app4 ?_ | refine WL.app3 ?_ | refine WL.app2 ?_ | refine WL.app1 ?_ | refine WL.app0 ?_ | skip
    repeat first
      | (apply WL.q; exact rfl; exact rfl; exact rfl; (first | (apply EvW.move; exact rfl) | (apply EvW.assign; exact rfl) | (apply EvW.cmpF; exact rfl; exact rfl; exact rfl; omega) | (apply EvW.pickF; exact rfl; exact rfl) | (apply EvW.build; exact PlC.eq; exact ZvC.eq; exact rfl; exact rfl; (focus ((repeat (first | exact Fills.nil | (apply Fills.cons; exact rfl; (first | assumption | exact rfl); exact rfl) | exact SetMany.nil | apply SetMany.cons | apply SetMany.succ)); done)))))
      | refine WC.seq ?_ | refine WC.region ?_ | refine WL.nil ?_ | refine WE.next ?_ | refine WC.skip ?_ | refine WC.condF rfl ?_ | refine WC.ret ?_ | refine WL.wanted rfl rfl rfl ?_ | (apply WL.store; exact rfl; exact rfl; (first | assumption | exact rfl); exact SzC.eq; (first | assumption | exact rfl); (focus ((repeat (first | apply UpdC.head | apply UpdC.tail | exact SetMany.nil | apply SetMany.cons | apply SetMany.succ)); done)))
    (apply WE.retC2 (A' := []); exact rfl; exact rfl; exact rfl; (focus ((repeat (first | exact Take.head | apply Take.tail)); done)); exact AggC.eq; exact SzC.eq; exact fun _ h => h.keep (by (focus ((repeat (first | exact TakeL.nil | apply TakeL.cons | exact Take.head | apply Take.tail)); done))))
    exact ⟨rfl, rfl⟩
end Go.Proofs.Ytehgfhjocfaciaa
