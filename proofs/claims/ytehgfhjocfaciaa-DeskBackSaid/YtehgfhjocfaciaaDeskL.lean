/- Commands and replies in bytes: what the desk and the document compute. -/
import Derived.Test.YtehgfhjocfaciaaDeskA
import Derived.Test.YtehgfhjocfaciaaPackN
import Derived.Test.YtehgfhjocfaciaaPackJ
import Derived.Test.YtehgfhjocfaciaaPackK
import Derived.Test.YtehgfhjocfaciaaSealF
namespace Go.Proofs.Ytehgfhjocfaciaa
open Go.RowKit Go.BK

/-- A reply: its code, its value. -/
structure Rep where
  c : Int
  v : Int
def repC (r : Rep) : List Value := [i64 r.c, i64 r.v]
theorem kfits_num (k : Nat) (m : PW) (x : Int) (h : ∀ r, m.fits r) : ∀ r, (m.num k x).fits r := fun _ => (h _).num
theorem six_fits (r : Nat) : (PW.init 6).fits r := ⟨by decide, by decide, .inl ⟨by decide, by decide⟩⟩
def cM (c : Cmd) : PW := [c.n, c.v].foldl (PW.num 2) ([c.k, c.s].foldl (PW.num 1) (PW.init 6))
def yM (r : Rep) : PW := [r.v].foldl (PW.num 4) ([100, r.c].foldl (PW.num 1) (PW.init 6))
def sealedF (m : PW) : List UInt8 × Int := if m.e = 0 then sealF m.out else ([], m.e)
def cmdF (c : Cmd) : List UInt8 × Int := if btw c.k 1 11 = true then sealedF (cM c) else ([], 27)
def repF (r : Rep) : List UInt8 × Int := sealedF (yM r)
def c1 (b : List UInt8) : Int × PR := (PR.mk 0 b).num 1
def c2 (b : List UInt8) : Int × PR := (c1 b).2.num 1
def c3 (b : List UInt8) : Int × PR := (c2 b).2.num 2
def c4 (b : List UInt8) : Int × PR := (c3 b).2.num 2
def d3 (b : List UInt8) : Int × PR := (c2 b).2.num 4
theorem c1_s (l : List UInt8) : (c1 l).2.s.length ≤ l.length ∧ ((c1 l).2.e = 0 ∨ (c1 l).2.e = 1) := ⟨PR.take_s _ _ _, PR.take_e _ _ _ (.inl rfl)⟩
theorem c2_s (l : List UInt8) : (c2 l).2.s.length ≤ l.length ∧ ((c2 l).2.e = 0 ∨ (c2 l).2.e = 1) := ⟨Nat.le_trans (PR.take_s _ _ _) (c1_s l).1, PR.take_e _ _ _ (c1_s l).2⟩
theorem c3_s (l : List UInt8) : (c3 l).2.s.length ≤ l.length ∧ ((c3 l).2.e = 0 ∨ (c3 l).2.e = 1) := ⟨Nat.le_trans (PR.take_s _ _ _) (c2_s l).1, PR.take_e _ _ _ (c2_s l).2⟩
theorem d3_s (l : List UInt8) : (d3 l).2.s.length ≤ l.length ∧ ((d3 l).2.e = 0 ∨ (d3 l).2.e = 1) := ⟨Nat.le_trans (PR.take_s _ _ _) (c2_s l).1, PR.take_e _ _ _ (c2_s l).2⟩
def rcF (l : List UInt8) : Cmd × Int := if (openF l).2 ≠ 0 then (⟨0, 0, 0, 0⟩, (openF l).2) else if ((openF l).1.length : Int) ≠ 6 then (⟨0, 0, 0, 0⟩, 3) else if btw (c1 (openF l).1).1 1 11 = true then (⟨(c1 (openF l).1).1, (c2 (openF l).1).1, (c3 (openF l).1).1, (c4 (openF l).1).1⟩, 0) else (⟨0, 0, 0, 0⟩, 27)
def rpF (l : List UInt8) : Rep × Int := if (openF l).2 ≠ 0 then (⟨0, 0⟩, (openF l).2) else if ((openF l).1.length : Int) ≠ 6 then (⟨0, 0⟩, 3) else if (c1 (openF l).1).1 = 100 then (⟨(c2 (openF l).1).1, (d3 (openF l).1).1⟩, 0) else (⟨0, 0⟩, 3)
theorem num1_at (l : List UInt8) (h : 0 < l.length) : c1 l = (((l.getD 0 0).toNat : Int), PR.mk 0 (l.drop 1)) := by
  unfold c1
  rw [num_good (PR.mk 0 l) 1 rfl h]
  match l, h with
  | x :: r, _ => simp [numOf]
theorem fin_six (b : List UInt8) : (d3 b).2.fin = 0 ↔ b.length = 6 := by
  unfold d3 c2 c1
  by_cases h1 : b.length < 1
  · rw [num_bad (PR.mk 0 b) 1 (.inr h1) (.inl rfl), num_bad (PR.mk 1 b) 1 (.inl rfl) (.inr rfl), num_bad (PR.mk 1 b) 4 (.inl rfl) (.inr rfl)]
    simp only [PR.fin]
    rw [if_neg (fun h => absurd h.1 (by decide))]
    omega
  have e1 : (PR.mk 0 b).num 1 = (numOf (b.take 1), PR.mk 0 (b.drop 1)) := num_good (PR.mk 0 b) 1 rfl (by show 1 ≤ b.length; omega)
  rw [e1]
  dsimp only
  by_cases h2 : b.length < 2
  · rw [num_bad (PR.mk 0 (b.drop 1)) 1 (.inr (by simp only [List.length_drop]; omega)) (.inl rfl), num_bad (PR.mk 1 (b.drop 1)) 4 (.inl rfl) (.inr rfl)]
    simp only [PR.fin]
    rw [if_neg (fun h => absurd h.1 (by decide))]
    omega
  have e2 : (PR.mk 0 (b.drop 1)).num 1 = (numOf ((b.drop 1).take 1), PR.mk 0 ((b.drop 1).drop 1)) := num_good (PR.mk 0 (b.drop 1)) 1 rfl (by simp only [List.length_drop]; omega)
  rw [e2]
  dsimp only
  by_cases h3 : b.length < 6
  · rw [num_bad (PR.mk 0 ((b.drop 1).drop 1)) 4 (.inr (by simp only [List.length_drop]; omega)) (.inl rfl)]
    simp only [PR.fin]
    rw [if_neg (fun h => absurd h.1 (by decide))]
    omega
  rw [num_good (PR.mk 0 ((b.drop 1).drop 1)) 4 rfl (by simp only [List.length_drop]; omega)]
  simp only [PR.fin, List.drop_drop]
  by_cases h6 : b.length = 6
  · rw [if_neg (fun h => h.2 (List.eq_nil_of_length_eq_zero (by simp only [List.length_drop]; omega)))]
    exact ⟨fun _ => h6, fun _ => rfl⟩
  · rw [if_pos ⟨trivial, fun h => by have := congrArg List.length h; simp only [List.length_drop, List.length_nil] at this; omega⟩]
    exact ⟨fun h => absurd h (by decide), fun h => absurd h h6⟩
theorem put_out (m : PW) (b : List UInt8) : (m.put b).out.length ≤ m.out.length + b.length := by
  unfold PW.put
  split
  · simp only [PW.note]; omega
  · split
    · simp only [PW.add, List.length_append]; omega
    · omega
theorem num_out (k : Nat) (m : PW) (x : Int) : (m.num k x).out.length ≤ m.out.length + k := by
  unfold PW.num
  have h := put_out (if x < 0 ∨ x.fdiv (2 ^ (8 * k)) ≠ 0 then m.note 32 else m) (be k x)
  rw [be_length] at h
  split at h <;> rename_i hc
  · rw [if_pos hc]; exact h
  · rw [if_neg hc]; exact h
theorem cM_out (c : Cmd) : (cM c).out.length ≤ 6 := by
  have h1 := num_out 1 (PW.init 6) c.k
  have h2 := num_out 1 (PW.num 1 (PW.init 6) c.k) c.s
  have h3 := num_out 2 (PW.num 1 (PW.num 1 (PW.init 6) c.k) c.s) c.n
  have h4 := num_out 2 (PW.num 2 (PW.num 1 (PW.num 1 (PW.init 6) c.k) c.s) c.n) c.v
  have h0 : (PW.init 6).out.length = 0 := rfl
  show (PW.num 2 (PW.num 2 (PW.num 1 (PW.num 1 (PW.init 6) c.k) c.s) c.n) c.v).out.length ≤ 6
  omega
theorem yM_out (c : Rep) : (yM c).out.length ≤ 6 := by
  have h1 := num_out 1 (PW.init 6) 100
  have h2 := num_out 1 (PW.num 1 (PW.init 6) 100) c.c
  have h3 := num_out 4 (PW.num 1 (PW.num 1 (PW.init 6) 100) c.c) c.v
  have h0 : (PW.init 6).out.length = 0 := rfl
  show (PW.num 4 (PW.num 1 (PW.num 1 (PW.init 6) 100) c.c) c.v).out.length ≤ 6
  omega
theorem sealed_spec (b : Nat) (v : Value) (m : PW) (w : World) (S : BSet) (hS : (sepL [.own 5 1 (v) (m).out.length ((m).out.map byt), .blk b #[i64 (m).e, v, i64 (m).lim] 87]).sat S w) (hm : m.out.length ≤ 6) :
    Tri Try.prog 36 #[ptr b 0] w S fun u A => u = .tuple #[str (sealedF m).1, i64 (sealedF m).2] ∧ A = [] := by
  refine Tri.enter (l := [ptr b 0]) Try.func36 rfl Try.ntmps36 rfl [(0, ptr b 0)] (subA rfl) hS ?_
  repeat first
    | (apply WL.q; exact rfl; exact rfl; exact rfl; (first | (apply EvW.move; exact rfl) | (apply EvW.assign; exact rfl) | (apply EvW.extract; exact rfl; exact rfl) | (apply EvW.cmpT; exact rfl; exact rfl; exact rfl; omega) | (apply EvW.cmpF; exact rfl; exact rfl; exact rfl; omega) | (apply EvW.cmp; exact rfl; exact rfl; exact rfl)))
    | refine WC.seq ?_ | refine WC.region ?_ | refine WL.nil ?_ | refine WE.next ?_ | refine WC.skip ?_ | refine WC.exit ?_ | refine WE.pass ?_ | refine WE.hit ?_ | refine WE.miss rfl ?_ | refine WE.out ?_ | refine WC.condT rfl ?_ | refine WC.condF rfl ?_ | refine WC.ret ?_ | refine WE.passRet ?_ | refine WE.outRet ?_ | refine WL.wanted rfl rfl rfl ?_
  try refine WL.wanted rfl rfl rfl ?_
  apply WL.callA ([.own 5 1 (v) (m).out.length ((m).out.map byt), .blk b #[i64 (m).e, v, i64 (m).lim] 87])
  · exact rfl
  · exact rfl
  · exact fun w => Try.call57 _ w
  · (focus ((repeat (first | exact TakeL.nil | apply TakeL.cons | exact Take.head | apply Take.tail)); done))
  · exact fun w1 S1 hS1 hs1 ho1 => done_spec b v m w1 S1 hS1
  rintro _ _ ⟨rfl, rfl⟩
  first | refine WL.app4 ?_ | refine WL.app3 ?_ | refine WL.app2 ?_ | refine WL.app1 ?_ | refine WL.app0 ?_ | skip
  unfold sealedF PW.said
  by_cases he : m.e = 0
  · rw [if_pos he, if_pos he]
    repeat first
      | (apply WL.q; exact rfl; exact rfl; exact rfl; (first | (apply EvW.move; exact rfl) | (apply EvW.assign; exact rfl) | (apply EvW.extract; exact rfl; exact rfl) | (apply EvW.cmpT; exact rfl; exact rfl; exact rfl; omega) | (apply EvW.cmpF; exact rfl; exact rfl; exact rfl; omega) | (apply EvW.cmp; exact rfl; exact rfl; exact rfl)))
      | refine WC.seq ?_ | refine WC.region ?_ | refine WL.nil ?_ | refine WE.next ?_ | refine WC.skip ?_ | refine WC.exit ?_ | refine WE.pass ?_ | refine WE.hit ?_ | refine WE.miss rfl ?_ | refine WE.out ?_ | refine WC.condT rfl ?_ | refine WC.condF rfl ?_ | refine WC.ret ?_ | refine WE.passRet ?_ | refine WE.outRet ?_ | refine WL.wanted rfl rfl rfl ?_
    try refine WL.wanted rfl rfl rfl ?_
    (apply WL.buildSlice; exact rfl; exact UndC.eq; exact SzC.eq; exact ZvC.eq; exact rfl; exact rfl; exact rfl; ((focus ((repeat (first | exact Flat.nil | (apply Flat.one; (first | exact rfl | assumption)) | (apply Flat.cons; exact rfl; exact rfl))); done))); exact rfl; exact rfl; intro c1)
    try refine WL.wanted rfl rfl rfl ?_
    apply WL.callA ([])
    · exact rfl
    · exact rfl
    · exact fun w => Try.call58 _ w
    · (focus ((repeat (first | exact TakeL.nil | apply TakeL.cons | exact Take.head | apply Take.tail)); done))
    · exact fun w1 S1 hS1 hs1 ho1 => seal1_spec _ m.out w1 S1 hS1 ((ho1 _ _ .head).blkRow rfl (fun k u h => by simpa using h) (by simp)) (by omega)
    rintro _ _ ⟨rfl, rfl⟩
    first | refine WL.app4 ?_ | refine WL.app3 ?_ | refine WL.app2 ?_ | refine WL.app1 ?_ | refine WL.app0 ?_ | skip
    repeat first
      | (apply WL.q; exact rfl; exact rfl; exact rfl; (first | (apply EvW.move; exact rfl) | (apply EvW.assign; exact rfl) | (apply EvW.extract; exact rfl; exact rfl) | (apply EvW.cmpT; exact rfl; exact rfl; exact rfl; omega) | (apply EvW.cmpF; exact rfl; exact rfl; exact rfl; omega) | (apply EvW.cmp; exact rfl; exact rfl; exact rfl)))
      | refine WC.seq ?_ | refine WC.region ?_ | refine WL.nil ?_ | refine WE.next ?_ | refine WC.skip ?_ | refine WC.exit ?_ | refine WE.pass ?_ | refine WE.hit ?_ | refine WE.miss rfl ?_ | refine WE.out ?_ | refine WC.condT rfl ?_ | refine WC.condF rfl ?_ | refine WC.ret ?_ | refine WE.passRet ?_ | refine WE.outRet ?_ | refine WL.wanted rfl rfl rfl ?_
    refine WE.bare ?_
    refine WE.retN (l := [2, 3]) rfl rfl rfl ?_
    exact ⟨rfl, rfl⟩
  · rw [if_neg he, if_neg he]
    repeat first
      | (apply WL.q; exact rfl; exact rfl; exact rfl; (first | (apply EvW.move; exact rfl) | (apply EvW.assign; exact rfl) | (apply EvW.extract; exact rfl; exact rfl) | (apply EvW.cmpT; exact rfl; exact rfl; exact rfl; omega) | (apply EvW.cmpF; exact rfl; exact rfl; exact rfl; omega) | (apply EvW.cmp; exact rfl; exact rfl; exact rfl)))
      | refine WC.seq ?_ | refine WC.region ?_ | refine WL.nil ?_ | refine WE.next ?_ | refine WC.skip ?_ | refine WC.exit ?_ | refine WE.pass ?_ | refine WE.hit ?_ | refine WE.miss rfl ?_ | refine WE.out ?_ | refine WC.condT rfl ?_ | refine WC.condF rfl ?_ | refine WC.ret ?_ | refine WE.passRet ?_ | refine WE.outRet ?_ | refine WL.wanted rfl rfl rfl ?_
    refine WE.bare ?_
    refine WE.retN (l := [2, 3]) rfl rfl rfl ?_
    exact ⟨rfl, rfl⟩
theorem command_spec (c : Cmd) (w : World) (S : BSet) (hS : (sepL []).sat S w)  :
    Tri Try.prog 17 #[.agg #[i64 (c).k, i64 (c).s, i64 (c).n, i64 (c).v]] w S fun u A => u = .tuple #[str (cmdF c).1, i64 (cmdF c).2] ∧ A = [] := by
  refine Tri.enter (l := [.agg #[i64 (c).k, i64 (c).s, i64 (c).n, i64 (c).v]]) Try.func17 rfl Try.ntmps17 rfl [(0, .agg #[i64 (c).k, i64 (c).s, i64 (c).n, i64 (c).v])] (subA rfl) hS ?_
  have hM : [c.n, c.v].foldl (PW.num 2) ([c.k, c.s].foldl (PW.num 1) (PW.init 6)) = cM c := rfl
  unfold cmdF
  repeat first
    | (apply WL.q; exact rfl; exact rfl; exact rfl; (first | (apply EvW.move; exact rfl) | (apply EvW.assign; exact rfl) | (apply EvW.fieldAddr0; exact rfl; exact FldC.eq) | (apply EvW.fieldAddr; exact rfl; exact FldC.eq) | (apply EvW.load; exact rfl; exact ScalC.eq; (focus ((repeat (first | exact Take.head | apply Take.tail)); done)); exact rfl) | (apply EvW.ldSeen; exact rfl; exact ScalC.eq; assumption; (first | exact rfl | assumption)) | (apply EvW.ldFld; exact rfl; exact ScalC.eq; assumption; exact fun _ => rfl; omega; exact rfl; exact inferInstance) | (apply EvW.extract; exact rfl; exact rfl) | (apply EvW.notT; exact rfl) | (apply EvW.notF; exact rfl) | (apply EvW.notP; exact rfl) | (apply EvW.ldInt; exact rfl; exact ScalC.eq; assumption; omega) | (apply EvW.ldIntOwn; exact rfl; exact ScalC.eq; (focus ((repeat (first | exact Take.head | apply Take.tail)); done)); omega) | (apply EvW.fldRow; exact rfl; exact FldC.eq; assumption; omega) | (apply EvW.fldOwn; exact rfl; exact FldC.eq; (focus ((repeat (first | exact Take.head | apply Take.tail)); done)); omega)))
    | refine WC.seq ?_ | refine WC.region ?_ | refine WL.nil ?_ | refine WE.next ?_ | refine WC.skip ?_ | refine WC.exit ?_ | refine WE.pass ?_ | refine WE.hit ?_ | refine WE.miss rfl ?_ | refine WE.out ?_ | refine WC.condT rfl ?_ | refine WC.condF rfl ?_ | refine WC.ret ?_ | refine WE.passRet ?_ | refine WE.outRet ?_ | refine WL.wanted rfl rfl rfl ?_
  try refine WL.wanted rfl rfl rfl ?_
  (apply WL.box; exact rfl; exact rfl; exact rfl; intro q1)
  repeat first
    | (apply WL.q; exact rfl; exact rfl; exact rfl; (first | (apply EvW.move; exact rfl) | (apply EvW.assign; exact rfl) | (apply EvW.fieldAddr0; exact rfl; exact FldC.eq) | (apply EvW.fieldAddr; exact rfl; exact FldC.eq) | (apply EvW.load; exact rfl; exact ScalC.eq; (focus ((repeat (first | exact Take.head | apply Take.tail)); done)); exact rfl) | (apply EvW.ldSeen; exact rfl; exact ScalC.eq; assumption; (first | exact rfl | assumption)) | (apply EvW.ldFld; exact rfl; exact ScalC.eq; assumption; exact fun _ => rfl; omega; exact rfl; exact inferInstance) | (apply EvW.extract; exact rfl; exact rfl) | (apply EvW.notT; exact rfl) | (apply EvW.notF; exact rfl) | (apply EvW.notP; exact rfl) | (apply EvW.ldInt; exact rfl; exact ScalC.eq; assumption; omega) | (apply EvW.ldIntOwn; exact rfl; exact ScalC.eq; (focus ((repeat (first | exact Take.head | apply Take.tail)); done)); omega) | (apply EvW.fldRow; exact rfl; exact FldC.eq; assumption; omega) | (apply EvW.fldOwn; exact rfl; exact FldC.eq; (focus ((repeat (first | exact Take.head | apply Take.tail)); done)); omega)))
    | refine WC.seq ?_ | refine WC.region ?_ | refine WL.nil ?_ | refine WE.next ?_ | refine WC.skip ?_ | refine WC.exit ?_ | refine WE.pass ?_ | refine WE.hit ?_ | refine WE.miss rfl ?_ | refine WE.out ?_ | refine WC.condT rfl ?_ | refine WC.condF rfl ?_ | refine WC.ret ?_ | refine WE.passRet ?_ | refine WE.outRet ?_ | refine WL.wanted rfl rfl rfl ?_
  try refine WL.wanted rfl rfl rfl ?_
  apply WL.callA ([])
  · exact rfl
  · exact rfl
  · exact fun w => Try.call29 _ w
  · (focus ((repeat (first | exact TakeL.nil | apply TakeL.cons | exact Take.head | apply Take.tail)); done))
  · exact fun w1 S1 hS1 hs1 ho1 => isKind_spec c.k w1 S1 hS1
  rintro _ _ ⟨rfl, rfl⟩
  first | refine WL.app4 ?_ | refine WL.app3 ?_ | refine WL.app2 ?_ | refine WL.app1 ?_ | refine WL.app0 ?_ | skip
  by_cases hk : btw c.k 1 11 = true
  · rw [hk, if_pos rfl]
    repeat first
      | (apply WL.q; exact rfl; exact rfl; exact rfl; (first | (apply EvW.move; exact rfl) | (apply EvW.assign; exact rfl) | (apply EvW.fieldAddr0; exact rfl; exact FldC.eq) | (apply EvW.fieldAddr; exact rfl; exact FldC.eq) | (apply EvW.load; exact rfl; exact ScalC.eq; (focus ((repeat (first | exact Take.head | apply Take.tail)); done)); exact rfl) | (apply EvW.ldSeen; exact rfl; exact ScalC.eq; assumption; (first | exact rfl | assumption)) | (apply EvW.ldFld; exact rfl; exact ScalC.eq; assumption; exact fun _ => rfl; omega; exact rfl; exact inferInstance) | (apply EvW.extract; exact rfl; exact rfl) | (apply EvW.notT; exact rfl) | (apply EvW.notF; exact rfl) | (apply EvW.notP; exact rfl) | (apply EvW.ldInt; exact rfl; exact ScalC.eq; assumption; omega) | (apply EvW.ldIntOwn; exact rfl; exact ScalC.eq; (focus ((repeat (first | exact Take.head | apply Take.tail)); done)); omega) | (apply EvW.fldRow; exact rfl; exact FldC.eq; assumption; omega) | (apply EvW.fldOwn; exact rfl; exact FldC.eq; (focus ((repeat (first | exact Take.head | apply Take.tail)); done)); omega)))
      | refine WC.seq ?_ | refine WC.region ?_ | refine WL.nil ?_ | refine WE.next ?_ | refine WC.skip ?_ | refine WC.exit ?_ | refine WE.pass ?_ | refine WE.hit ?_ | refine WE.miss rfl ?_ | refine WE.out ?_ | refine WC.condT rfl ?_ | refine WC.condF rfl ?_ | refine WC.ret ?_ | refine WE.passRet ?_ | refine WE.outRet ?_ | refine WL.wanted rfl rfl rfl ?_
    try refine WL.wanted rfl rfl rfl ?_
    apply WL.callA ([])
    · exact rfl
    · exact rfl
    · exact fun w => Try.call33 _ w
    · (focus ((repeat (first | exact TakeL.nil | apply TakeL.cons | exact Take.head | apply Take.tail)); done))
    · exact fun w1 S1 hS1 hs1 ho1 => new_spec 6 w1 S1 hS1
    rintro _ _ ⟨b, rfl, rfl⟩
    first | refine WL.app4 ?_ | refine WL.app3 ?_ | refine WL.app2 ?_ | refine WL.app1 ?_ | refine WL.app0 ?_ | skip
    repeat first
      | (apply WL.q; exact rfl; exact rfl; exact rfl; (first | (apply EvW.move; exact rfl) | (apply EvW.assign; exact rfl) | (apply EvW.fieldAddr0; exact rfl; exact FldC.eq) | (apply EvW.fieldAddr; exact rfl; exact FldC.eq) | (apply EvW.load; exact rfl; exact ScalC.eq; (focus ((repeat (first | exact Take.head | apply Take.tail)); done)); exact rfl) | (apply EvW.ldSeen; exact rfl; exact ScalC.eq; assumption; (first | exact rfl | assumption)) | (apply EvW.ldFld; exact rfl; exact ScalC.eq; assumption; exact fun _ => rfl; omega; exact rfl; exact inferInstance) | (apply EvW.extract; exact rfl; exact rfl) | (apply EvW.notT; exact rfl) | (apply EvW.notF; exact rfl) | (apply EvW.notP; exact rfl) | (apply EvW.ldInt; exact rfl; exact ScalC.eq; assumption; omega) | (apply EvW.ldIntOwn; exact rfl; exact ScalC.eq; (focus ((repeat (first | exact Take.head | apply Take.tail)); done)); omega) | (apply EvW.fldRow; exact rfl; exact FldC.eq; assumption; omega) | (apply EvW.fldOwn; exact rfl; exact FldC.eq; (focus ((repeat (first | exact Take.head | apply Take.tail)); done)); omega)))
      | refine WC.seq ?_ | refine WC.region ?_ | refine WL.nil ?_ | refine WE.next ?_ | refine WC.skip ?_ | refine WC.exit ?_ | refine WE.pass ?_ | refine WE.hit ?_ | refine WE.miss rfl ?_ | refine WE.out ?_ | refine WC.condT rfl ?_ | refine WC.condF rfl ?_ | refine WC.ret ?_ | refine WE.passRet ?_ | refine WE.outRet ?_ | refine WL.wanted rfl rfl rfl ?_
    try refine WL.wanted rfl rfl rfl ?_
    (apply WL.buildSlice; exact rfl; exact UndC.eq; exact SzC.eq; exact ZvC.eq; exact rfl; exact rfl; exact rfl; ((focus ((repeat (first | exact Flat.nil | (apply Flat.one; (first | exact rfl | assumption)) | (apply Flat.cons; exact rfl; exact rfl))); done))); exact rfl; exact rfl; intro x1)
    try refine WL.wanted rfl rfl rfl ?_
    apply WL.callA ([.own 5 1 (Value.slice none 0 0) (PW.init 6).out.length ((PW.init 6).out.map byt), .blk b #[i64 (PW.init 6).e, Value.slice none 0 0, i64 (PW.init 6).lim] 87])
    · exact rfl
    · exact rfl
    · exact fun w => Try.call34 _ w
    · (focus ((repeat (first | exact TakeL.nil | apply TakeL.cons | exact Take.head | apply Take.tail)); done))
    · exact fun w1 S1 hS1 hs1 ho1 => byte_spec b _ _ (PW.init 6) [c.k, c.s] w1 S1 hS1 ((ho1 _ _ .head).blkRow rfl (fun k u h => by simpa using h) (by simp)) (six_fits _) (by simp)
    rintro _ _ ⟨rfl, v1, rfl⟩
    first | refine WL.app4 ?_ | refine WL.app3 ?_ | refine WL.app2 ?_ | refine WL.app1 ?_ | refine WL.app0 ?_ | skip
    repeat first
      | (apply WL.q; exact rfl; exact rfl; exact rfl; (first | (apply EvW.move; exact rfl) | (apply EvW.assign; exact rfl) | (apply EvW.fieldAddr0; exact rfl; exact FldC.eq) | (apply EvW.fieldAddr; exact rfl; exact FldC.eq) | (apply EvW.load; exact rfl; exact ScalC.eq; (focus ((repeat (first | exact Take.head | apply Take.tail)); done)); exact rfl) | (apply EvW.ldSeen; exact rfl; exact ScalC.eq; assumption; (first | exact rfl | assumption)) | (apply EvW.ldFld; exact rfl; exact ScalC.eq; assumption; exact fun _ => rfl; omega; exact rfl; exact inferInstance) | (apply EvW.extract; exact rfl; exact rfl) | (apply EvW.notT; exact rfl) | (apply EvW.notF; exact rfl) | (apply EvW.notP; exact rfl) | (apply EvW.ldInt; exact rfl; exact ScalC.eq; assumption; omega) | (apply EvW.ldIntOwn; exact rfl; exact ScalC.eq; (focus ((repeat (first | exact Take.head | apply Take.tail)); done)); omega) | (apply EvW.fldRow; exact rfl; exact FldC.eq; assumption; omega) | (apply EvW.fldOwn; exact rfl; exact FldC.eq; (focus ((repeat (first | exact Take.head | apply Take.tail)); done)); omega)))
      | refine WC.seq ?_ | refine WC.region ?_ | refine WL.nil ?_ | refine WE.next ?_ | refine WC.skip ?_ | refine WC.exit ?_ | refine WE.pass ?_ | refine WE.hit ?_ | refine WE.miss rfl ?_ | refine WE.out ?_ | refine WC.condT rfl ?_ | refine WC.condF rfl ?_ | refine WC.ret ?_ | refine WE.passRet ?_ | refine WE.outRet ?_ | refine WL.wanted rfl rfl rfl ?_
    try refine WL.wanted rfl rfl rfl ?_
    (apply WL.buildSlice; exact rfl; exact UndC.eq; exact SzC.eq; exact ZvC.eq; exact rfl; exact rfl; exact rfl; ((focus ((repeat (first | exact Flat.nil | (apply Flat.one; (first | exact rfl | assumption)) | (apply Flat.cons; exact rfl; exact rfl))); done))); exact rfl; exact rfl; intro x2)
    try refine WL.wanted rfl rfl rfl ?_
    apply WL.callA ([.own 5 1 (v1) ([c.k, c.s].foldl (PW.num 1) (PW.init 6)).out.length (([c.k, c.s].foldl (PW.num 1) (PW.init 6)).out.map byt), .blk b #[i64 ([c.k, c.s].foldl (PW.num 1) (PW.init 6)).e, v1, i64 ([c.k, c.s].foldl (PW.num 1) (PW.init 6)).lim] 87])
    · exact rfl
    · exact rfl
    · exact fun w => Try.call35 _ w
    · (focus ((repeat (first | exact TakeL.nil | apply TakeL.cons | exact Take.head | apply Take.tail)); done))
    · exact fun w1 S1 hS1 hs1 ho1 => word_spec b _ _ ([c.k, c.s].foldl (PW.num 1) (PW.init 6)) [c.n, c.v] w1 S1 hS1 ((ho1 _ _ .head).blkRow rfl (fun k u h => by simpa using h) (by simp)) (kfits_num 1 _ c.s (kfits_num 1 _ c.k six_fits) _) (by simp)
    rintro _ _ ⟨rfl, v2, rfl⟩
    first | refine WL.app4 ?_ | refine WL.app3 ?_ | refine WL.app2 ?_ | refine WL.app1 ?_ | refine WL.app0 ?_ | skip
    rw [hM]
    repeat first
      | (apply WL.q; exact rfl; exact rfl; exact rfl; (first | (apply EvW.move; exact rfl) | (apply EvW.assign; exact rfl) | (apply EvW.fieldAddr0; exact rfl; exact FldC.eq) | (apply EvW.fieldAddr; exact rfl; exact FldC.eq) | (apply EvW.load; exact rfl; exact ScalC.eq; (focus ((repeat (first | exact Take.head | apply Take.tail)); done)); exact rfl) | (apply EvW.ldSeen; exact rfl; exact ScalC.eq; assumption; (first | exact rfl | assumption)) | (apply EvW.ldFld; exact rfl; exact ScalC.eq; assumption; exact fun _ => rfl; omega; exact rfl; exact inferInstance) | (apply EvW.extract; exact rfl; exact rfl) | (apply EvW.notT; exact rfl) | (apply EvW.notF; exact rfl) | (apply EvW.notP; exact rfl) | (apply EvW.ldInt; exact rfl; exact ScalC.eq; assumption; omega) | (apply EvW.ldIntOwn; exact rfl; exact ScalC.eq; (focus ((repeat (first | exact Take.head | apply Take.tail)); done)); omega) | (apply EvW.fldRow; exact rfl; exact FldC.eq; assumption; omega) | (apply EvW.fldOwn; exact rfl; exact FldC.eq; (focus ((repeat (first | exact Take.head | apply Take.tail)); done)); omega)))
      | refine WC.seq ?_ | refine WC.region ?_ | refine WL.nil ?_ | refine WE.next ?_ | refine WC.skip ?_ | refine WC.exit ?_ | refine WE.pass ?_ | refine WE.hit ?_ | refine WE.miss rfl ?_ | refine WE.out ?_ | refine WC.condT rfl ?_ | refine WC.condF rfl ?_ | refine WC.ret ?_ | refine WE.passRet ?_ | refine WE.outRet ?_ | refine WL.wanted rfl rfl rfl ?_
    try refine WL.wanted rfl rfl rfl ?_
    apply WL.callA ([.own 5 1 (v2) (cM c).out.length ((cM c).out.map byt), .blk b #[i64 (cM c).e, v2, i64 (cM c).lim] 87])
    · exact rfl
    · exact rfl
    · exact fun w => Try.call36 _ w
    · (focus ((repeat (first | exact TakeL.nil | apply TakeL.cons | exact Take.head | apply Take.tail)); done))
    · exact fun w1 S1 hS1 hs1 ho1 => sealed_spec b v2 (cM c) w1 S1 hS1 (cM_out c)
    rintro _ _ ⟨rfl, rfl⟩
    first | refine WL.app4 ?_ | refine WL.app3 ?_ | refine WL.app2 ?_ | refine WL.app1 ?_ | refine WL.app0 ?_ | skip
    repeat first
      | (apply WL.q; exact rfl; exact rfl; exact rfl; (first | (apply EvW.move; exact rfl) | (apply EvW.assign; exact rfl) | (apply EvW.fieldAddr0; exact rfl; exact FldC.eq) | (apply EvW.fieldAddr; exact rfl; exact FldC.eq) | (apply EvW.load; exact rfl; exact ScalC.eq; (focus ((repeat (first | exact Take.head | apply Take.tail)); done)); exact rfl) | (apply EvW.ldSeen; exact rfl; exact ScalC.eq; assumption; (first | exact rfl | assumption)) | (apply EvW.ldFld; exact rfl; exact ScalC.eq; assumption; exact fun _ => rfl; omega; exact rfl; exact inferInstance) | (apply EvW.extract; exact rfl; exact rfl) | (apply EvW.notT; exact rfl) | (apply EvW.notF; exact rfl) | (apply EvW.notP; exact rfl) | (apply EvW.ldInt; exact rfl; exact ScalC.eq; assumption; omega) | (apply EvW.ldIntOwn; exact rfl; exact ScalC.eq; (focus ((repeat (first | exact Take.head | apply Take.tail)); done)); omega) | (apply EvW.fldRow; exact rfl; exact FldC.eq; assumption; omega) | (apply EvW.fldOwn; exact rfl; exact FldC.eq; (focus ((repeat (first | exact Take.head | apply Take.tail)); done)); omega)))
      | refine WC.seq ?_ | refine WC.region ?_ | refine WL.nil ?_ | refine WE.next ?_ | refine WC.skip ?_ | refine WC.exit ?_ | refine WE.pass ?_ | refine WE.hit ?_ | refine WE.miss rfl ?_ | refine WE.out ?_ | refine WC.condT rfl ?_ | refine WC.condF rfl ?_ | refine WC.ret ?_ | refine WE.passRet ?_ | refine WE.outRet ?_ | refine WL.wanted rfl rfl rfl ?_
    refine WE.bare ?_
    refine WE.retN (l := [2, 3]) rfl rfl rfl ?_
    exact ⟨rfl, rfl⟩
  · rw [show btw c.k 1 11 = false by simpa using hk, if_neg (by decide)]
    repeat first
      | (apply WL.q; exact rfl; exact rfl; exact rfl; (first | (apply EvW.move; exact rfl) | (apply EvW.assign; exact rfl) | (apply EvW.fieldAddr0; exact rfl; exact FldC.eq) | (apply EvW.fieldAddr; exact rfl; exact FldC.eq) | (apply EvW.load; exact rfl; exact ScalC.eq; (focus ((repeat (first | exact Take.head | apply Take.tail)); done)); exact rfl) | (apply EvW.ldSeen; exact rfl; exact ScalC.eq; assumption; (first | exact rfl | assumption)) | (apply EvW.ldFld; exact rfl; exact ScalC.eq; assumption; exact fun _ => rfl; omega; exact rfl; exact inferInstance) | (apply EvW.extract; exact rfl; exact rfl) | (apply EvW.notT; exact rfl) | (apply EvW.notF; exact rfl) | (apply EvW.notP; exact rfl) | (apply EvW.ldInt; exact rfl; exact ScalC.eq; assumption; omega) | (apply EvW.ldIntOwn; exact rfl; exact ScalC.eq; (focus ((repeat (first | exact Take.head | apply Take.tail)); done)); omega) | (apply EvW.fldRow; exact rfl; exact FldC.eq; assumption; omega) | (apply EvW.fldOwn; exact rfl; exact FldC.eq; (focus ((repeat (first | exact Take.head | apply Take.tail)); done)); omega)))
      | refine WC.seq ?_ | refine WC.region ?_ | refine WL.nil ?_ | refine WE.next ?_ | refine WC.skip ?_ | refine WC.exit ?_ | refine WE.pass ?_ | refine WE.hit ?_ | refine WE.miss rfl ?_ | refine WE.out ?_ | refine WC.condT rfl ?_ | refine WC.condF rfl ?_ | refine WC.ret ?_ | refine WE.passRet ?_ | refine WE.outRet ?_ | refine WL.wanted rfl rfl rfl ?_
    refine WE.bare ?_
    refine WE.retN (l := [2, 3]) rfl rfl rfl ?_
    exact ⟨rfl, rfl⟩
end Go.Proofs.Ytehgfhjocfaciaa
