/- Own lemmas: the texts MemA, MemB, MemC, MemD, JnA, JnB, LibAG, LibY, LibZ, JnC, JnD, JnE, JnF, JnG. -/
import Derived.Test.YtknclcjmfgdphaaRows
import Derived.Test.YtknclcjmfgdphaaJnPfM2
namespace Go.Proofs.Ytknclcjmfgdphaa
open Go.RowKit Go.BK
theorem m7join_empty (xs : List (List UInt8)) : Lib.join xs [] = xs.flatten := by
  cases xs with
  | nil => rfl
  | cons x r => rw [Lib.join_cons]; simp [Lib.joinTail]
theorem m7join_spec (v : Value) (ps : List (List UInt8)) (w : World) (S : BSet) (hx : Sees w S (.row 1 v ps.length (ps.map str))) (hpl : ps.length ≤ 140737488355328) (hl : ps.flatten.length ≤ 140737488355328) :
    Tri Try.prog 48 #[v, str []] w S fun u A => u = str ps.flatten ∧ A = [] := by
  obtain ⟨R, hR, _⟩ := hx
  obtain ⟨hcl, h⟩ := id hR
  rcases h with ⟨p, cap, h1, h2, _⟩ | ⟨b, off, cap, cc, T, fr, h1, _, h3, h4, h5⟩
  · have hp : ps = [] := List.length_eq_zero_iff.1 h2
    subst hp
    subst h1
    exact Tri.ofSame (Try.strings_Join_none p cap _ w)
  · subst h1
    have hj := Try.strings_Join b off cap (ps.map fun l => ⟨l.toArray⟩) ⟨([] : List UInt8).toArray⟩ w (fun j x hj => by
      rw [List.getElem?_map] at hj
      cases hp : ps[j]? with
      | none => rw [hp] at hj; cases hj
      | some l =>
        rw [hp] at hj
        simp only [Option.map_some, Option.some.injEq] at hj
        subst hj
        exact row_cell (by rw [List.getElem?_map, hp]; rfl) R w hR) (lt_of_get h3) (by simpa using hpl) (by simpa using h5)
      (by rw [List.map_map]; simp only [Function.comp_def, List.map_id', m7join_empty]; exact hl)
    have e : (Lib.join ((ps.map fun l => (⟨l.toArray⟩ : ByteArray)).map (·.data.toList)) ((⟨([] : List UInt8).toArray⟩ : ByteArray).data.toList)) = ps.flatten := by
      rw [List.map_map]; simp only [Function.comp_def, List.map_id', m7join_empty]
    rw [e, List.length_map] at hj
    exact Tri.ofBelow hj
theorem repeat_one (n : Nat) : Lib.repeatL [255] n = List.replicate n 255 := by
  induction n with
  | zero => rfl
  | succ n ih => show [255] ++ Lib.repeatL [255] n = _; rw [ih, List.replicate_succ]; rfl
theorem repeat_spec (n : Nat) (w : World) (S : BSet) (hn : n ≤ 140737488355328) :
    Tri Try.prog 30 #[str [255], i64 n] w S fun u A => u = str (List.replicate n 255) ∧ A = [] := by
  have h := Try.strings_Repeat ⟨([255] : List UInt8).toArray⟩ n w (by omega) (by show 1 * n ≤ _; omega)
  rw [show Lib.repeatL (⟨([255] : List UInt8).toArray⟩ : ByteArray).data.toList n = List.replicate n 255 from repeat_one n] at h
  exact Tri.ofBelow h
/-- A memory: acts since the arming, acts, whether the power has gone, the pages, how often each was erased. -/
structure Mem where
  ar : Int
  ac : Int
  off : Bool
  pages : List (List UInt8)
  worn : List Int
def bareB (n : Nat) : List UInt8 := List.replicate n 255
theorem bareB_length (n : Nat) : (bareB n).length = n := List.length_replicate ..
structure Mem.wf (m : Mem) (K : Nat) : Prop where
  ar0 : 0 ≤ m.ar
  ar1 : m.ar ≤ K
  ac0 : 0 ≤ m.ac
  ac1 : m.ac ≤ K
  pl : m.pages.length = 24
  wl : m.worn.length = 24
  p : ∀ i, i < 24 → (m.pages.getD i []).length = 4096
  w : ∀ i, i < 24 → 0 ≤ m.worn.getD i 0 ∧ m.worn.getD i 0 ≤ K
def Mem.new : Mem := ⟨0, 0, false, List.replicate 24 (bareB 4096), List.replicate 24 0⟩
/-- How many bytes of an act of n bytes happen, and what is answered, where a cut comes or none. -/
def m7cutF (c : Option Int) (n : Int) : Int × Int := match c with
  | none => (n, 0)
  | some p => (min (max p 0) n, 14)
def Mem.act (m : Mem) (c : Option Int) : Mem := { m with ar := m.ar + 1, ac := m.ac + 1, off := m.off || c.isSome }
def Mem.place (m : Mem) (page at' : Int) : Int := if m.off = true then 14 else if page < 0 ∨ 24 ≤ page ∨ at' < 0 ∨ 4096 < at' then 20 else 0
theorem bare_spec (n : Int) (w : World) (S : BSet) (hS : (sepL []).sat S w) (h0 : 0 ≤ n) (h1 : n ≤ 4096) :
    Tri Try.prog 19 #[i64 n] w S fun u A => u = str (bareB n.toNat) ∧ A = [] := by
  refine Tri.enter (l := [i64 n]) Try.func19 rfl Try.ntmps19 rfl [(0, i64 n)] (subA rfl) hS ?_
  obtain ⟨k, rfl⟩ : ∃ k : Nat, n = k := ⟨n.toNat, by omega⟩
  repeat first
    | (apply WL.q; exact rfl; exact rfl; exact rfl; (first | (apply EvW.move; exact rfl) | (apply EvW.assign; exact rfl)))
    | refine WC.seq ?_ | refine WC.region ?_ | refine WL.nil ?_ | refine WE.next ?_
  try refine WL.wanted rfl rfl rfl ?_
  apply WL.callA ([])
  · exact rfl
  · exact rfl
  · exact fun w => Try.call30 _ w
  · (focus ((repeat constructor); done))
  · exact fun w1 S1 hS1 hs1 ho1 => (fun _ => repeat_spec k w1 S1 (by omega)) hS1
  rintro _ _ ⟨rfl, rfl⟩
  first | refine WL.app4 ?_ | refine WL.app3 ?_ | refine WL.app2 ?_ | refine WL.app1 ?_ | refine WL.app0 ?_ | skip
  repeat first
    | (apply WL.q; exact rfl; exact rfl; exact rfl; (first | (apply EvW.assign; exact rfl)))
    | refine WL.nil ?_ | refine WE.next ?_ | refine WC.ret ?_
  refine WE.ret1 rfl rfl ?_
  exact ⟨rfl, rfl⟩
theorem place_spec (b : Nat) (o : Option Nat) (m : Mem) (page pos : Int) (w : World) (S : BSet) (hS : (sepL [.blk b (Value.map (o) :: i64 (m).ar :: i64 (m).ac :: Value.bool (m).off :: ((m).pages.map str ++ (m).worn.map i64)).toArray 61]).sat S w)  :
    Tri Try.prog 47 #[ptr b 0, i64 page, i64 pos] w S fun u A => u = i64 (m.place page pos) ∧ A = [.blk b (Value.map (o) :: i64 (m).ar :: i64 (m).ac :: Value.bool (m).off :: ((m).pages.map str ++ (m).worn.map i64)).toArray 61] := by
  refine Tri.enter (l := [ptr b 0, i64 page, i64 pos]) Try.func47 rfl Try.ntmps47 rfl [(0, ptr b 0), (1, i64 page), (2, i64 pos)] (subA rfl) hS ?_
  unfold Mem.place
  cases ho : m.off with
  | true =>
    rw [if_pos rfl]
    repeat first
      | (apply WL.q; exact rfl; exact rfl; exact rfl; (first | (apply EvW.move; exact rfl) | (apply EvW.assign; exact rfl) | (apply EvW.nilPtr; exact rfl) | (apply EvW.fieldAddr0; exact rfl; exact FldC.eq) | (apply EvW.load; exact rfl; exact ScalC.eq; (focus ((repeat constructor); done)); exact rfl)))
      | refine WC.seq ?_ | refine WC.region ?_ | refine WL.nil ?_ | refine WE.next ?_ | refine WC.block ?_ | refine WC.condT rfl ?_ | refine WC.ret ?_ | refine WE.passRet ?_ | refine WE.outRet ?_
    refine WE.ret1 rfl rfl ?_
    exact ⟨rfl, rfl⟩
  | false =>
    rw [if_neg (by decide)]
    by_cases h1 : page < 0
    · rw [if_pos (.inl h1)]
      repeat first
        | (apply WL.q; exact rfl; exact rfl; exact rfl; (first | (apply EvW.move; exact rfl) | (apply EvW.assign; exact rfl) | (apply EvW.nilPtr; exact rfl) | (apply EvW.fieldAddr0; exact rfl; exact FldC.eq) | (apply EvW.load; exact rfl; exact ScalC.eq; (focus ((repeat constructor); done)); exact rfl) | (apply EvW.cmpT; exact rfl; exact rfl; exact rfl; omega) | (apply EvW.pickT; exact rfl; exact rfl)))
        | refine WC.seq ?_ | refine WC.region ?_ | refine WL.nil ?_ | refine WE.next ?_ | refine WC.block ?_ | refine WC.condT rfl ?_ | refine WC.condF rfl ?_ | refine WC.ret ?_ | refine WE.passRet ?_ | refine WE.outRet ?_ | refine WL.unwanted rfl rfl rfl rfl ?_
      refine WE.ret1 rfl rfl ?_
      exact ⟨rfl, rfl⟩
    by_cases h2 : 24 ≤ page
    · rw [if_pos (.inr (.inl h2))]
      repeat first
        | (apply WL.q; exact rfl; exact rfl; exact rfl; (first | (apply EvW.move; exact rfl) | (apply EvW.assign; exact rfl) | (apply EvW.nilPtr; exact rfl) | (apply EvW.fieldAddr0; exact rfl; exact FldC.eq) | (apply EvW.load; exact rfl; exact ScalC.eq; (focus ((repeat constructor); done)); exact rfl) | (apply EvW.cmpT; exact rfl; exact rfl; exact rfl; omega) | (apply EvW.cmpF; exact rfl; exact rfl; exact rfl; omega) | (apply EvW.pickT; exact rfl; exact rfl) | (apply EvW.pickF; exact rfl; exact rfl)))
        | refine WC.seq ?_ | refine WC.region ?_ | refine WL.nil ?_ | refine WE.next ?_ | refine WC.block ?_ | refine WC.condT rfl ?_ | refine WC.condF rfl ?_ | refine WC.ret ?_ | refine WE.passRet ?_ | refine WE.outRet ?_ | refine WL.wanted rfl rfl rfl ?_ | refine WL.unwanted rfl rfl rfl rfl ?_
      refine WE.ret1 rfl rfl ?_
      exact ⟨rfl, rfl⟩
    by_cases h3 : pos < 0
    · rw [if_pos (.inr (.inr (.inl h3)))]
      repeat first
        | (apply WL.q; exact rfl; exact rfl; exact rfl; (first | (apply EvW.move; exact rfl) | (apply EvW.assign; exact rfl) | (apply EvW.nilPtr; exact rfl) | (apply EvW.fieldAddr0; exact rfl; exact FldC.eq) | (apply EvW.load; exact rfl; exact ScalC.eq; (focus ((repeat constructor); done)); exact rfl) | (apply EvW.cmpT; exact rfl; exact rfl; exact rfl; omega) | (apply EvW.cmpF; exact rfl; exact rfl; exact rfl; omega) | (apply EvW.pickT; exact rfl; exact rfl) | (apply EvW.pickF; exact rfl; exact rfl)))
        | refine WC.seq ?_ | refine WC.region ?_ | refine WL.nil ?_ | refine WE.next ?_ | refine WC.block ?_ | refine WC.condT rfl ?_ | refine WC.condF rfl ?_ | refine WC.ret ?_ | refine WE.passRet ?_ | refine WE.outRet ?_ | refine WL.wanted rfl rfl rfl ?_ | refine WL.unwanted rfl rfl rfl rfl ?_
      refine WE.ret1 rfl rfl ?_
      exact ⟨rfl, rfl⟩
    by_cases h4 : 4096 < pos
    · rw [if_pos (.inr (.inr (.inr h4)))]
      repeat first
        | (apply WL.q; exact rfl; exact rfl; exact rfl; (first | (apply EvW.move; exact rfl) | (apply EvW.assign; exact rfl) | (apply EvW.nilPtr; exact rfl) | (apply EvW.fieldAddr0; exact rfl; exact FldC.eq) | (apply EvW.load; exact rfl; exact ScalC.eq; (focus ((repeat constructor); done)); exact rfl) | (apply EvW.cmpT; exact rfl; exact rfl; exact rfl; omega) | (apply EvW.cmpF; exact rfl; exact rfl; exact rfl; omega) | (apply EvW.pickF; exact rfl; exact rfl)))
        | refine WC.seq ?_ | refine WC.region ?_ | refine WL.nil ?_ | refine WE.next ?_ | refine WC.block ?_ | refine WC.condT rfl ?_ | refine WC.condF rfl ?_ | refine WC.ret ?_ | refine WE.passRet ?_ | refine WE.outRet ?_ | refine WL.wanted rfl rfl rfl ?_
      refine WE.ret1 rfl rfl ?_
      exact ⟨rfl, rfl⟩
    · rw [if_neg (by omega)]
      repeat first
        | (apply WL.q; exact rfl; exact rfl; exact rfl; (first | (apply EvW.move; exact rfl) | (apply EvW.assign; exact rfl) | (apply EvW.nilPtr; exact rfl) | (apply EvW.fieldAddr0; exact rfl; exact FldC.eq) | (apply EvW.load; exact rfl; exact ScalC.eq; (focus ((repeat constructor); done)); exact rfl) | (apply EvW.cmpF; exact rfl; exact rfl; exact rfl; omega) | (apply EvW.pickF; exact rfl; exact rfl)))
        | refine WC.seq ?_ | refine WC.region ?_ | refine WL.nil ?_ | refine WE.next ?_ | refine WC.block ?_ | refine WC.skip ?_ | refine WE.out ?_ | refine WC.condF rfl ?_ | refine WC.ret ?_ | refine WL.wanted rfl rfl rfl ?_
      refine WE.ret1 rfl rfl ?_
      exact ⟨rfl, rfl⟩
theorem act_spec (b : Nat) (o : Option Nat) (mp : List (Int × Value)) (ar ac : Int) (off : Bool) (r : List Value) (T : TypeId) (c : Option Int) (n : Int) (w : World) (S : BSet) (hS : (sepL [.blk b (Value.map (o) :: i64 (ar) :: i64 (ac) :: Value.bool (off) :: r).toArray T, .omap o mp]).sat S w) (hn : 0 ≤ n) (h0 : 0 ≤ ar) (h1 : ar ≤ 4611686018427387904) (h2 : 0 ≤ ac) (h3 : ac ≤ 4611686018427387904) (ho : o = none → mp = []) (hc : mget ar mp = c.map i64) :
    Tri Try.prog 49 #[ptr b 0, i64 n] w S fun u A => u = .tuple #[i64 (m7cutF c n).1, i64 (m7cutF c n).2] ∧ A = [.blk b (Value.map (o) :: i64 (ar + 1) :: i64 (ac + 1) :: Value.bool ((off || c.isSome)) :: r).toArray T, .omap o (mdel ar mp)] := by
  refine Tri.enter (l := [ptr b 0, i64 n]) Try.func49 rfl Try.ntmps49 rfl [(0, ptr b 0), (1, i64 n)] (subA rfl) hS ?_
  cases o with
  | none =>
    obtain rfl := ho rfl
    obtain rfl : c = none := by
      cases c with
      | none => rfl
      | some p => simp [mget] at hc
    repeat first
      | (apply WL.q; exact rfl; exact rfl; exact rfl; (first | (apply EvW.assign; exact rfl)))
      | refine WC.seq ?_ | refine WC.region ?_ | refine WL.nil ?_ | refine WE.next ?_
    repeat refine WC.seq ?_
    refine WC.keep (xs := [.blk b (Value.map (none) :: i64 (ar) :: i64 (ac) :: Value.bool (off) :: r).toArray T, .omap none ([] : List (Int × Value))]) (by repeat constructor) ?_
    apply WC.par _ (fun c : Ch => [.blk b (Value.map (none) :: i64 (ar) :: i64 (ac) :: Value.bool (off) :: r).toArray T, .omap none ([] : List (Int × Value))]) [none, none] [none, none] [] Try.mixed
    · (focus ((repeat (first | exact Restr.nil | (apply Restr.keep; exact rfl; exact rfl) | (apply Restr.drop; exact rfl))); done))
    · intro c; exact (by repeat constructor)
    · exact rfl
    · decide +kernel
    · decide +kernel
    · intro c
      (apply Par.quiet _ [true, true]; exact rfl; decide +kernel; exact rfl; intro R; refine ⟨_, (by repeat constructor), ?_⟩;
           (first | (apply EvW.move; exact rfl)))
      (apply Par.quiet _ [true, true]; exact rfl; decide +kernel; exact rfl; intro R; refine ⟨_, (by repeat constructor), ?_⟩;
           (first | (apply EvW.nilPtr; exact rfl)))
      (apply Par.quiet _ [true, true]; exact rfl; decide +kernel; exact rfl; intro R; refine ⟨_, (by repeat constructor), ?_⟩;
           (first | (apply EvW.fieldAddr0; exact rfl; exact FldC.eq)))
      (apply Par.quiet _ [true, true]; exact rfl; decide +kernel; exact rfl; intro R; refine ⟨_, (by repeat constructor), ?_⟩;
           (first | (apply EvW.load; exact rfl; exact ScalC.eq; (focus ((repeat constructor); done)); exact rfl)))
      (apply Par.quiet _ [true, true]; exact rfl; decide +kernel; exact rfl; intro R; refine ⟨_, (by repeat constructor), ?_⟩;
           (first | (apply EvW.move; exact rfl)))
      (apply Par.quiet _ [true, true]; exact rfl; decide +kernel; exact rfl; intro R; refine ⟨_, (by repeat constructor), ?_⟩;
           (first | (apply EvW.nilPtr; exact rfl)))
      (apply Par.quiet _ [true, true]; exact rfl; decide +kernel; exact rfl; intro R; refine ⟨_, (by repeat constructor), ?_⟩;
           (first | (apply EvW.fieldAddr0; exact rfl; exact FldC.eq)))
      (apply Par.quiet _ [true, true]; exact rfl; decide +kernel; exact rfl; intro R; refine ⟨_, (by repeat constructor), ?_⟩;
           (first | (apply EvW.load; exact rfl; exact ScalC.eq; (focus ((repeat constructor); done)); exact rfl)))
      apply Par.quiet _ [true, true]
      · exact rfl
      · decide +kernel
      · exact rfl
      · intro R
        refine ⟨_, (by repeat constructor), ?_⟩
        (apply EvW.lookupOkN; exact rfl; exact rfl; exact UndC.eq; exact UndC.eq; exact ZvC.eq)
      (apply Par.quiet _ [true, true]; exact rfl; decide +kernel; exact rfl; intro R; refine ⟨_, (by repeat constructor), ?_⟩;
           (first | (apply EvW.move; exact rfl)))
      (apply Par.quiet _ [true, true]; exact rfl; decide +kernel; exact rfl; intro R; refine ⟨_, (by repeat constructor), ?_⟩;
           (first | (apply EvW.extract; exact rfl; exact rfl)))
      (apply Par.quiet _ [true, true]; exact rfl; decide +kernel; exact rfl; intro R; refine ⟨_, (by repeat constructor), ?_⟩;
           (first | (apply EvW.extract; exact rfl; exact rfl)))
      (apply Par.quiet _ [true, true]; exact rfl; decide +kernel; exact rfl; intro R; refine ⟨_, (by repeat constructor), ?_⟩;
           (first | (apply EvW.assign; exact rfl)))
      (apply Par.quiet _ [true, true]; exact rfl; decide +kernel; exact rfl; intro R; refine ⟨_, (by repeat constructor), ?_⟩;
           (first | (apply EvW.assign; exact rfl)))
      exact Par.nil
    · repeat (first | exact AllN.nil | (apply AllN.cons; (intro c x; (repeat (first | exact IndA.nil | (apply IndA.skip; decide +kernel) | apply IndA.same))))) 
    · repeat (first | exact AllN.nil | (apply AllN.cons; (intro c x; (repeat (first | exact IndT.nil | (apply IndT.skip; decide +kernel) | apply IndT.same))))) 
    · exact fun _ => rfl
    intro c
    refine ⟨_, (by repeat constructor), ?_⟩
    apply WE.writ
    · (focus ((repeat (first | exact Writ.nil | apply Writ.some | apply Writ.none)); done))
    repeat first
      | refine WC.seq ?_ | refine WE.next ?_
    repeat refine WC.seq ?_
    refine WC.keep (xs := [.blk b (Value.map (none) :: i64 (ar) :: i64 (ac) :: Value.bool (off) :: r).toArray T, .omap none ([] : List (Int × Value))]) (by repeat constructor) ?_
    apply WC.par _ (fun c : Ch => [.blk b (Value.map (none) :: i64 (ar) :: i64 (ac) :: Value.bool (off) :: r).toArray T, .omap none ([] : List (Int × Value))]) [none, none] [none, none] [] Try.mixed
    · (focus ((repeat (first | exact Restr.nil | (apply Restr.keep; exact rfl; exact rfl) | (apply Restr.drop; exact rfl))); done))
    · intro c; exact (by repeat constructor)
    · exact rfl
    · decide +kernel
    · decide +kernel
    · intro c
      (apply Par.quiet _ [true, true]; exact rfl; decide +kernel; exact rfl; intro R; refine ⟨_, (by repeat constructor), ?_⟩;
           (first | (apply EvW.move; exact rfl)))
      (apply Par.quiet _ [true, true]; exact rfl; decide +kernel; exact rfl; intro R; refine ⟨_, (by repeat constructor), ?_⟩;
           (first | (apply EvW.nilPtr; exact rfl)))
      (apply Par.quiet _ [true, true]; exact rfl; decide +kernel; exact rfl; intro R; refine ⟨_, (by repeat constructor), ?_⟩;
           (first | (apply EvW.fieldAddr0; exact rfl; exact FldC.eq)))
      (apply Par.quiet _ [true, true]; exact rfl; decide +kernel; exact rfl; intro R; refine ⟨_, (by repeat constructor), ?_⟩;
           (first | (apply EvW.load; exact rfl; exact ScalC.eq; (focus ((repeat constructor); done)); exact rfl)))
      (apply Par.quiet _ [true, true]; exact rfl; decide +kernel; exact rfl; intro R; refine ⟨_, (by repeat constructor), ?_⟩;
           (first | (apply EvW.move; exact rfl)))
      (apply Par.quiet _ [true, true]; exact rfl; decide +kernel; exact rfl; intro R; refine ⟨_, (by repeat constructor), ?_⟩;
           (first | (apply EvW.nilPtr; exact rfl)))
      (apply Par.quiet _ [true, true]; exact rfl; decide +kernel; exact rfl; intro R; refine ⟨_, (by repeat constructor), ?_⟩;
           (first | (apply EvW.fieldAddr0; exact rfl; exact FldC.eq)))
      (apply Par.quiet _ [true, true]; exact rfl; decide +kernel; exact rfl; intro R; refine ⟨_, (by repeat constructor), ?_⟩;
           (first | (apply EvW.load; exact rfl; exact ScalC.eq; (focus ((repeat constructor); done)); exact rfl)))
      apply Par.quiet _ [true, true]
      · exact rfl
      · decide +kernel
      · exact rfl
      · intro R
        refine ⟨_, (by repeat constructor), ?_⟩
        (apply EvW.deleteN; exact rfl; exact rfl; exact UndC.eq; exact UndC.eq)
      exact Par.nil
    · repeat (first | exact AllN.nil | (apply AllN.cons; (intro c x; (repeat (first | exact IndA.nil | (apply IndA.skip; decide +kernel) | apply IndA.same))))) 
    · repeat (first | exact AllN.nil | (apply AllN.cons; (intro c x; (repeat (first | exact IndT.nil | (apply IndT.skip; decide +kernel) | apply IndT.same))))) 
    · exact fun _ => rfl
    intro c
    refine ⟨_, (by repeat constructor), ?_⟩
    apply WE.writ
    · (focus ((repeat (first | exact Writ.nil | apply Writ.some | apply Writ.none)); done))
    rw [show (off || (none : Option Int).isSome) = off from Bool.or_false off]
    repeat first
      | (apply WL.q; exact rfl; exact rfl; exact rfl; (first | (apply EvW.move; exact rfl) | (apply EvW.assign; exact rfl) | (apply EvW.nilPtr; exact rfl) | (apply EvW.fieldAddr0; exact rfl; exact FldC.eq) | (apply EvW.load; exact rfl; exact ScalC.eq; (focus ((repeat constructor); done)); exact rfl) | (apply EvW.arN; exact rfl; exact rfl; exact rfl; refine i64_in ?_ ?_ <;> omega) | (apply EvW.notF; exact rfl)))
      | refine WC.seq ?_ | refine WC.region ?_ | refine WL.nil ?_ | refine WE.next ?_ | refine WC.condT rfl ?_ | refine WC.ret ?_ | refine WE.passRet ?_ | (apply WL.store; exact rfl; exact rfl; (first | assumption | exact rfl); exact SzC.eq; (first | assumption | exact rfl); (focus ((repeat constructor); done)))
    refine WE.retN (l := [4, 5]) rfl rfl rfl ?_
    exact ⟨rfl, rfl⟩
  | some mb =>
    rw [show HP.omap (some mb) mp = HP.imap mb mp from rfl, show HP.omap (some mb) (mdel ar mp) = HP.imap mb (mdel ar mp) from rfl]
    cases c with
    | none =>
      have hc' : mget ar mp = none := hc
      rw [show (off || (none : Option Int).isSome) = off from Bool.or_false off]
      repeat first
        | (apply WL.q; exact rfl; exact rfl; exact rfl; (first | (apply EvW.assign; exact rfl)))
        | refine WC.seq ?_ | refine WC.region ?_ | refine WL.nil ?_ | refine WE.next ?_
      repeat refine WC.seq ?_
      refine WC.keep (xs := [.blk b (Value.map (some mb) :: i64 (ar) :: i64 (ac) :: Value.bool (off) :: r).toArray T, .imap mb mp]) (by repeat constructor) ?_
      apply WC.par _ (fun c : Ch => [.blk b (Value.map (some mb) :: i64 (ar) :: i64 (ac) :: Value.bool (off) :: r).toArray T, .imap mb mp]) [none, none] [none, none] [] Try.mixed
      · (focus ((repeat (first | exact Restr.nil | (apply Restr.keep; exact rfl; exact rfl) | (apply Restr.drop; exact rfl))); done))
      · intro c; exact (by repeat constructor)
      · exact rfl
      · decide +kernel
      · decide +kernel
      · intro c
        (apply Par.quiet _ [true, true]; exact rfl; decide +kernel; exact rfl; intro R; refine ⟨_, (by repeat constructor), ?_⟩;
             (first | (apply EvW.move; exact rfl)))
        (apply Par.quiet _ [true, true]; exact rfl; decide +kernel; exact rfl; intro R; refine ⟨_, (by repeat constructor), ?_⟩;
             (first | (apply EvW.nilPtr; exact rfl)))
        (apply Par.quiet _ [true, true]; exact rfl; decide +kernel; exact rfl; intro R; refine ⟨_, (by repeat constructor), ?_⟩;
             (first | (apply EvW.fieldAddr0; exact rfl; exact FldC.eq)))
        (apply Par.quiet _ [true, true]; exact rfl; decide +kernel; exact rfl; intro R; refine ⟨_, (by repeat constructor), ?_⟩;
             (first | (apply EvW.load; exact rfl; exact ScalC.eq; (focus ((repeat constructor); done)); exact rfl)))
        (apply Par.quiet _ [true, true]; exact rfl; decide +kernel; exact rfl; intro R; refine ⟨_, (by repeat constructor), ?_⟩;
             (first | (apply EvW.move; exact rfl)))
        (apply Par.quiet _ [true, true]; exact rfl; decide +kernel; exact rfl; intro R; refine ⟨_, (by repeat constructor), ?_⟩;
             (first | (apply EvW.nilPtr; exact rfl)))
        (apply Par.quiet _ [true, true]; exact rfl; decide +kernel; exact rfl; intro R; refine ⟨_, (by repeat constructor), ?_⟩;
             (first | (apply EvW.fieldAddr0; exact rfl; exact FldC.eq)))
        (apply Par.quiet _ [true, true]; exact rfl; decide +kernel; exact rfl; intro R; refine ⟨_, (by repeat constructor), ?_⟩;
             (first | (apply EvW.load; exact rfl; exact ScalC.eq; (focus ((repeat constructor); done)); exact rfl)))
        apply Par.quiet _ [true, true]
        · exact rfl
        · decide +kernel
        · exact rfl
        · intro R
          refine ⟨_, (by repeat constructor), ?_⟩
          (apply EvW.lookupOk; exact rfl; exact rfl; exact UndC.eq; exact UndC.eq; exact ZvC.eq; (focus ((repeat constructor); done)))
        (apply Par.quiet _ [true, true]; exact rfl; decide +kernel; exact rfl; intro R; refine ⟨_, (by repeat constructor), ?_⟩;
             (first | (apply EvW.move; exact rfl)))
        (apply Par.quiet _ [true, true]; exact rfl; decide +kernel; exact rfl; intro R; refine ⟨_, (by repeat constructor), ?_⟩;
             (first | (apply EvW.extract; exact rfl; exact rfl)))
        (apply Par.quiet _ [true, true]; exact rfl; decide +kernel; exact rfl; intro R; refine ⟨_, (by repeat constructor), ?_⟩;
             (first | (apply EvW.extract; exact rfl; exact rfl)))
        (apply Par.quiet _ [true, true]; exact rfl; decide +kernel; exact rfl; intro R; refine ⟨_, (by repeat constructor), ?_⟩;
             (first | (apply EvW.assign; exact rfl)))
        (apply Par.quiet _ [true, true]; exact rfl; decide +kernel; exact rfl; intro R; refine ⟨_, (by repeat constructor), ?_⟩;
             (first | (apply EvW.assign; exact rfl)))
        exact Par.nil
      · repeat (first | exact AllN.nil | (apply AllN.cons; (intro c x; (repeat (first | exact IndA.nil | (apply IndA.skip; decide +kernel) | apply IndA.same))))) 
      · repeat (first | exact AllN.nil | (apply AllN.cons; (intro c x; (repeat (first | exact IndT.nil | (apply IndT.skip; decide +kernel) | apply IndT.same))))) 
      · exact fun _ => rfl
      intro c
      refine ⟨_, (by repeat constructor), ?_⟩
      apply WE.writ
      · (focus ((repeat (first | exact Writ.nil | apply Writ.some | apply Writ.none)); done))
      rw [hc']
      dsimp only [Option.getD, Option.isSome]
      repeat first
        | refine WC.seq ?_ | refine WE.next ?_
      repeat refine WC.seq ?_
      refine WC.keep (xs := [.blk b (Value.map (some mb) :: i64 (ar) :: i64 (ac) :: Value.bool (off) :: r).toArray T, .imap mb mp]) (by repeat constructor) ?_
      apply WC.par _ (fun c : Ch => [.blk b (Value.map (some mb) :: i64 (ar) :: i64 (ac) :: Value.bool (off) :: r).toArray T, .imap mb mp, .imap mb (mdel ar mp)]) [none, none, some 8] [none, some 8, none] [] Try.mixed
      · (focus ((repeat (first | exact Restr.nil | (apply Restr.keep; exact rfl; exact rfl) | (apply Restr.drop; exact rfl))); done))
      · intro c; exact (by repeat constructor)
      · exact rfl
      · decide +kernel
      · decide +kernel
      · intro c
        (apply Par.quiet _ [true, true, false]; exact rfl; decide +kernel; exact rfl; intro R; refine ⟨_, (by repeat constructor), ?_⟩;
             (first | (apply EvW.move; exact rfl)))
        (apply Par.quiet _ [true, true, false]; exact rfl; decide +kernel; exact rfl; intro R; refine ⟨_, (by repeat constructor), ?_⟩;
             (first | (apply EvW.nilPtr; exact rfl)))
        (apply Par.quiet _ [true, true, false]; exact rfl; decide +kernel; exact rfl; intro R; refine ⟨_, (by repeat constructor), ?_⟩;
             (first | (apply EvW.fieldAddr0; exact rfl; exact FldC.eq)))
        (apply Par.quiet _ [true, true, false]; exact rfl; decide +kernel; exact rfl; intro R; refine ⟨_, (by repeat constructor), ?_⟩;
             (first | (apply EvW.load; exact rfl; exact ScalC.eq; (focus ((repeat constructor); done)); exact rfl)))
        (apply Par.quiet _ [true, true, false]; exact rfl; decide +kernel; exact rfl; intro R; refine ⟨_, (by repeat constructor), ?_⟩;
             (first | (apply EvW.move; exact rfl)))
        (apply Par.quiet _ [true, true, false]; exact rfl; decide +kernel; exact rfl; intro R; refine ⟨_, (by repeat constructor), ?_⟩;
             (first | (apply EvW.nilPtr; exact rfl)))
        (apply Par.quiet _ [true, true, false]; exact rfl; decide +kernel; exact rfl; intro R; refine ⟨_, (by repeat constructor), ?_⟩;
             (first | (apply EvW.fieldAddr0; exact rfl; exact FldC.eq)))
        (apply Par.quiet _ [true, true, false]; exact rfl; decide +kernel; exact rfl; intro R; refine ⟨_, (by repeat constructor), ?_⟩;
             (first | (apply EvW.load; exact rfl; exact ScalC.eq; (focus ((repeat constructor); done)); exact rfl)))
        apply Par.eff _ [false, true, false] [false, false, true] [true, false, false]
        · exact rfl
        · exact rfl
        · decide +kernel
        · intro R
          refine ⟨_, _, _, (by repeat constructor), (by repeat constructor), (by repeat constructor), ?_⟩
          (apply EffW.delete; exact rfl; exact rfl; exact UndC.eq; exact UndC.eq; (focus ((repeat (first | apply UpdM.head | apply UpdM.tail)); done)))
        exact Par.nil
      · repeat (first | exact AllN.nil | (apply AllN.cons; (intro c x; (repeat (first | exact IndA.nil | (apply IndA.skip; decide +kernel) | apply IndA.same))))) 
      · repeat (first | exact AllN.nil | (apply AllN.cons; (intro c x; (repeat (first | exact IndT.nil | (apply IndT.skip; decide +kernel) | apply IndT.same))))) 
      · exact fun _ => rfl
      intro c
      refine ⟨_, (by repeat constructor), ?_⟩
      apply WE.writ
      · (focus ((repeat (first | exact Writ.nil | apply Writ.some | apply Writ.none)); done))
      repeat first
        | (apply WL.q; exact rfl; exact rfl; exact rfl; (first | (apply EvW.move; exact rfl) | (apply EvW.assign; exact rfl) | (apply EvW.nilPtr; exact rfl) | (apply EvW.fieldAddr0; exact rfl; exact FldC.eq) | (apply EvW.load; exact rfl; exact ScalC.eq; (focus ((repeat constructor); done)); exact rfl) | (apply EvW.arN; exact rfl; exact rfl; exact rfl; refine i64_in ?_ ?_ <;> omega) | (apply EvW.notF; exact rfl)))
        | refine WC.seq ?_ | refine WC.region ?_ | refine WL.nil ?_ | refine WE.next ?_ | refine WC.condT rfl ?_ | refine WC.ret ?_ | refine WE.passRet ?_ | (apply WL.store; exact rfl; exact rfl; (first | assumption | exact rfl); exact SzC.eq; (first | assumption | exact rfl); (focus ((repeat constructor); done)))
      refine WE.retN (l := [4, 5]) rfl rfl rfl ?_
      exact ⟨rfl, rfl⟩
    | some p =>
      have hc' : mget ar mp = some (i64 p) := hc
      rw [show (off || (some p).isSome) = true from Bool.or_true off]
      repeat first
        | (apply WL.q; exact rfl; exact rfl; exact rfl; (first | (apply EvW.assign; exact rfl)))
        | refine WC.seq ?_ | refine WC.region ?_ | refine WL.nil ?_ | refine WE.next ?_
      repeat refine WC.seq ?_
      refine WC.keep (xs := [.blk b (Value.map (some mb) :: i64 (ar) :: i64 (ac) :: Value.bool (off) :: r).toArray T, .imap mb mp]) (by repeat constructor) ?_
      apply WC.par _ (fun c : Ch => [.blk b (Value.map (some mb) :: i64 (ar) :: i64 (ac) :: Value.bool (off) :: r).toArray T, .imap mb mp]) [none, none] [none, none] [] Try.mixed
      · (focus ((repeat (first | exact Restr.nil | (apply Restr.keep; exact rfl; exact rfl) | (apply Restr.drop; exact rfl))); done))
      · intro c; exact (by repeat constructor)
      · exact rfl
      · decide +kernel
      · decide +kernel
      · intro c
        (apply Par.quiet _ [true, true]; exact rfl; decide +kernel; exact rfl; intro R; refine ⟨_, (by repeat constructor), ?_⟩;
             (first | (apply EvW.move; exact rfl)))
        (apply Par.quiet _ [true, true]; exact rfl; decide +kernel; exact rfl; intro R; refine ⟨_, (by repeat constructor), ?_⟩;
             (first | (apply EvW.nilPtr; exact rfl)))
        (apply Par.quiet _ [true, true]; exact rfl; decide +kernel; exact rfl; intro R; refine ⟨_, (by repeat constructor), ?_⟩;
             (first | (apply EvW.fieldAddr0; exact rfl; exact FldC.eq)))
        (apply Par.quiet _ [true, true]; exact rfl; decide +kernel; exact rfl; intro R; refine ⟨_, (by repeat constructor), ?_⟩;
             (first | (apply EvW.load; exact rfl; exact ScalC.eq; (focus ((repeat constructor); done)); exact rfl)))
        (apply Par.quiet _ [true, true]; exact rfl; decide +kernel; exact rfl; intro R; refine ⟨_, (by repeat constructor), ?_⟩;
             (first | (apply EvW.move; exact rfl)))
        (apply Par.quiet _ [true, true]; exact rfl; decide +kernel; exact rfl; intro R; refine ⟨_, (by repeat constructor), ?_⟩;
             (first | (apply EvW.nilPtr; exact rfl)))
        (apply Par.quiet _ [true, true]; exact rfl; decide +kernel; exact rfl; intro R; refine ⟨_, (by repeat constructor), ?_⟩;
             (first | (apply EvW.fieldAddr0; exact rfl; exact FldC.eq)))
        (apply Par.quiet _ [true, true]; exact rfl; decide +kernel; exact rfl; intro R; refine ⟨_, (by repeat constructor), ?_⟩;
             (first | (apply EvW.load; exact rfl; exact ScalC.eq; (focus ((repeat constructor); done)); exact rfl)))
        apply Par.quiet _ [true, true]
        · exact rfl
        · decide +kernel
        · exact rfl
        · intro R
          refine ⟨_, (by repeat constructor), ?_⟩
          (apply EvW.lookupOk; exact rfl; exact rfl; exact UndC.eq; exact UndC.eq; exact ZvC.eq; (focus ((repeat constructor); done)))
        (apply Par.quiet _ [true, true]; exact rfl; decide +kernel; exact rfl; intro R; refine ⟨_, (by repeat constructor), ?_⟩;
             (first | (apply EvW.move; exact rfl)))
        (apply Par.quiet _ [true, true]; exact rfl; decide +kernel; exact rfl; intro R; refine ⟨_, (by repeat constructor), ?_⟩;
             (first | (apply EvW.extract; exact rfl; exact rfl)))
        (apply Par.quiet _ [true, true]; exact rfl; decide +kernel; exact rfl; intro R; refine ⟨_, (by repeat constructor), ?_⟩;
             (first | (apply EvW.extract; exact rfl; exact rfl)))
        (apply Par.quiet _ [true, true]; exact rfl; decide +kernel; exact rfl; intro R; refine ⟨_, (by repeat constructor), ?_⟩;
             (first | (apply EvW.assign; exact rfl)))
        (apply Par.quiet _ [true, true]; exact rfl; decide +kernel; exact rfl; intro R; refine ⟨_, (by repeat constructor), ?_⟩;
             (first | (apply EvW.assign; exact rfl)))
        exact Par.nil
      · repeat (first | exact AllN.nil | (apply AllN.cons; (intro c x; (repeat (first | exact IndA.nil | (apply IndA.skip; decide +kernel) | apply IndA.same))))) 
      · repeat (first | exact AllN.nil | (apply AllN.cons; (intro c x; (repeat (first | exact IndT.nil | (apply IndT.skip; decide +kernel) | apply IndT.same))))) 
      · exact fun _ => rfl
      intro c
      refine ⟨_, (by repeat constructor), ?_⟩
      apply WE.writ
      · (focus ((repeat (first | exact Writ.nil | apply Writ.some | apply Writ.none)); done))
      rw [hc']
      dsimp only [Option.getD, Option.isSome]
      repeat first
        | refine WC.seq ?_ | refine WE.next ?_
      repeat refine WC.seq ?_
      refine WC.keep (xs := [.blk b (Value.map (some mb) :: i64 (ar) :: i64 (ac) :: Value.bool (off) :: r).toArray T, .imap mb mp]) (by repeat constructor) ?_
      apply WC.par _ (fun c : Ch => [.blk b (Value.map (some mb) :: i64 (ar) :: i64 (ac) :: Value.bool (off) :: r).toArray T, .imap mb mp, .imap mb (mdel ar mp)]) [none, none, some 8] [none, some 8, none] [] Try.mixed
      · (focus ((repeat (first | exact Restr.nil | (apply Restr.keep; exact rfl; exact rfl) | (apply Restr.drop; exact rfl))); done))
      · intro c; exact (by repeat constructor)
      · exact rfl
      · decide +kernel
      · decide +kernel
      · intro c
        (apply Par.quiet _ [true, true, false]; exact rfl; decide +kernel; exact rfl; intro R; refine ⟨_, (by repeat constructor), ?_⟩;
             (first | (apply EvW.move; exact rfl)))
        (apply Par.quiet _ [true, true, false]; exact rfl; decide +kernel; exact rfl; intro R; refine ⟨_, (by repeat constructor), ?_⟩;
             (first | (apply EvW.nilPtr; exact rfl)))
        (apply Par.quiet _ [true, true, false]; exact rfl; decide +kernel; exact rfl; intro R; refine ⟨_, (by repeat constructor), ?_⟩;
             (first | (apply EvW.fieldAddr0; exact rfl; exact FldC.eq)))
        (apply Par.quiet _ [true, true, false]; exact rfl; decide +kernel; exact rfl; intro R; refine ⟨_, (by repeat constructor), ?_⟩;
             (first | (apply EvW.load; exact rfl; exact ScalC.eq; (focus ((repeat constructor); done)); exact rfl)))
        (apply Par.quiet _ [true, true, false]; exact rfl; decide +kernel; exact rfl; intro R; refine ⟨_, (by repeat constructor), ?_⟩;
             (first | (apply EvW.move; exact rfl)))
        (apply Par.quiet _ [true, true, false]; exact rfl; decide +kernel; exact rfl; intro R; refine ⟨_, (by repeat constructor), ?_⟩;
             (first | (apply EvW.nilPtr; exact rfl)))
        (apply Par.quiet _ [true, true, false]; exact rfl; decide +kernel; exact rfl; intro R; refine ⟨_, (by repeat constructor), ?_⟩;
             (first | (apply EvW.fieldAddr0; exact rfl; exact FldC.eq)))
        (apply Par.quiet _ [true, true, false]; exact rfl; decide +kernel; exact rfl; intro R; refine ⟨_, (by repeat constructor), ?_⟩;
             (first | (apply EvW.load; exact rfl; exact ScalC.eq; (focus ((repeat constructor); done)); exact rfl)))
        apply Par.eff _ [false, true, false] [false, false, true] [true, false, false]
        · exact rfl
        · exact rfl
        · decide +kernel
        · intro R
          refine ⟨_, _, _, (by repeat constructor), (by repeat constructor), (by repeat constructor), ?_⟩
          (apply EffW.delete; exact rfl; exact rfl; exact UndC.eq; exact UndC.eq; (focus ((repeat (first | apply UpdM.head | apply UpdM.tail)); done)))
        exact Par.nil
      · repeat (first | exact AllN.nil | (apply AllN.cons; (intro c x; (repeat (first | exact IndA.nil | (apply IndA.skip; decide +kernel) | apply IndA.same))))) 
      · repeat (first | exact AllN.nil | (apply AllN.cons; (intro c x; (repeat (first | exact IndT.nil | (apply IndT.skip; decide +kernel) | apply IndT.same))))) 
      · exact fun _ => rfl
      intro c
      refine ⟨_, (by repeat constructor), ?_⟩
      apply WE.writ
      · (focus ((repeat (first | exact Writ.nil | apply Writ.some | apply Writ.none)); done))
      repeat first
        | (apply WL.q; exact rfl; exact rfl; exact rfl; (first | (apply EvW.move; exact rfl) | (apply EvW.assign; exact rfl) | (apply EvW.nilPtr; exact rfl) | (apply EvW.fieldAddr0; exact rfl; exact FldC.eq) | (apply EvW.load; exact rfl; exact ScalC.eq; (focus ((repeat constructor); done)); exact rfl) | (apply EvW.arN; exact rfl; exact rfl; exact rfl; refine i64_in ?_ ?_ <;> omega) | (apply EvW.notT; exact rfl) | (apply EvW.max2; exact rfl; exact rfl) | (apply EvW.min2; exact rfl; exact rfl)))
        | refine WC.seq ?_ | refine WC.region ?_ | refine WL.nil ?_ | refine WE.next ?_ | refine WC.skip ?_ | refine WC.condF rfl ?_ | refine WC.ret ?_ | (apply WL.store; exact rfl; exact rfl; (first | assumption | exact rfl); exact SzC.eq; (first | assumption | exact rfl); (focus ((repeat constructor); done)))
      refine WE.retN (l := [4, 5]) rfl rfl rfl ?_
      exact ⟨rfl, rfl⟩
end Go.Proofs.Ytknclcjmfgdphaa
namespace Go.Proofs.Ytknclcjmfgdphaa
open Go.RowKit Go.BK
theorem getD_some {α : Type} {l : List α} {d : α} {i : Nat} (h : i < l.length) : l[i]? = some (l.getD i d) := by
  rw [List.getD_eq_getElem?_getD, List.getElem?_eq_getElem h]; rfl
theorem get_page {x0 x1 x2 x3 : Value} {ps : List (List UInt8)} {r : List Value} {i : Nat} (h : i < ps.length) : getL (x0 :: x1 :: x2 :: x3 :: (ps.map str ++ r)) (4 + i * 1) = some (str (ps.getD i [])) := by
  rw [show 4 + i * 1 = i + 1 + 1 + 1 + 1 by omega]
  show getL (ps.map str ++ r) i = _
  rw [getL_app _ _ _ (by rw [List.length_map]; exact h), List.getElem?_map, getD_some (d := []) h]; rfl
theorem get_worn {x0 x1 x2 x3 : Value} {ps : List (List UInt8)} {ws : List Int} {i : Nat} (hp : ps.length = 24) (h : i < ws.length) : getL (x0 :: x1 :: x2 :: x3 :: (ps.map str ++ ws.map i64)) (28 + i * 1) = some (i64 (ws.getD i 0)) := by
  rw [show 28 + i * 1 = (i + (ps.map str).length) + 1 + 1 + 1 + 1 by rw [List.length_map, hp]; omega]
  show getL (ps.map str ++ ws.map i64) (i + (ps.map str).length) = _
  rw [getL_behind, getL_eq, List.getElem?_map, getD_some (d := 0) h]; rfl
theorem at_page {x0 x1 x2 x3 : Value} {ps : List (List UInt8)} {r : List Value} {i : Nat} (h : i < ps.length) : (x0 :: x1 :: x2 :: x3 :: (ps.map str ++ r))[4 + i * 1]? = some (str (ps.getD i [])) := by rw [← getL_eq]; exact get_page h
theorem at_worn {x0 x1 x2 x3 : Value} {ps : List (List UInt8)} {ws : List Int} (i : Nat) (hp : ps.length = 24) (h : i < ws.length) : (x0 :: x1 :: x2 :: x3 :: (ps.map str ++ ws.map i64))[28 + i * 1]? = some (i64 (ws.getD i 0)) := by rw [← getL_eq]; exact get_worn hp h
theorem set_page {x0 x1 x2 x3 : Value} {ps : List (List UInt8)} {r : List Value} {i : Nat} {t : List UInt8} (h : i < ps.length) : SetMany (x0 :: x1 :: x2 :: x3 :: (ps.map str ++ r)) (4 + i * 1) [str t] (x0 :: x1 :: x2 :: x3 :: ((ps.set i t).map str ++ r)) := by
  rw [show 4 + i * 1 = i + 1 + 1 + 1 + 1 by omega, List.map_set]
  exact .succ (.succ (.succ (.succ (SetMany.one (ps.map str) i (by rw [List.length_map]; exact h)))))
theorem set_worn {x0 x1 x2 x3 : Value} {ps : List (List UInt8)} {ws : List Int} {i : Nat} {t : Int} (hp : ps.length = 24) (h : i < ws.length) : SetMany (x0 :: x1 :: x2 :: x3 :: (ps.map str ++ ws.map i64)) (28 + i * 1) [i64 t] (x0 :: x1 :: x2 :: x3 :: (ps.map str ++ (ws.set i t).map i64)) := by
  rw [show 28 + i * 1 = (i + (ps.map str).length) + 1 + 1 + 1 + 1 by rw [List.length_map, hp]; omega, List.map_set]
  refine .succ (.succ (.succ (.succ (SetMany.behind ?_ (ps.map str)))))
  have := SetMany.one (v := i64 t) (r := []) (ws.map i64) i (by rw [List.length_map]; exact h)
  rwa [List.append_nil, List.append_nil] at this
theorem place_zero {m : Mem} {page pos : Int} (h : m.place page pos = 0) : m.off = false ∧ (0 ≤ page ∧ page < 24) ∧ (0 ≤ pos ∧ pos ≤ 4096) := by
  unfold Mem.place at h
  split at h
  · exact absurd h (by decide)
  · rename_i ho
    split at h
    · exact absurd h (by decide)
    · exact ⟨by simpa using ho, by omega, by omega⟩
def Mem.page (m : Mem) (p : Int) : List UInt8 := m.pages.getD p.toNat []
def Mem.read (m : Mem) (p pos n : Int) : List UInt8 × Int := if m.place p pos ≠ 0 then ([], m.place p pos) else if n < 0 ∨ 4096 - pos < n then ([], 2) else (((m.page p).take (pos + n).toNat).drop pos.toNat, 0)
def Mem.bad (m : Mem) (p pos : Int) (t : List UInt8) : Int := if m.place p pos ≠ 0 then m.place p pos else if (t.length : Int) > 4096 - pos then 2 else if ((m.page p).take (pos + t.length).toNat).drop pos.toNat ≠ bareB t.length then 15 else 0
def Mem.burnt (m : Mem) (p pos : Int) (t : List UInt8) (n : Int) : Mem := { m with pages := m.pages.set p.toNat ((m.page p).take pos.toNat ++ t.take n.toNat ++ (m.page p).drop (pos + n).toNat) }
def Mem.erased (m : Mem) (p n : Int) : Mem := { m with pages := m.pages.set p.toNat (bareB n.toNat ++ (m.page p).drop n.toNat), worn := m.worn.set p.toNat (m.worn.getD p.toNat 0 + 1) }
def bareL (P : List UInt8) : Nat := (P.reverse.dropWhile (· == 255)).length
def Mem.bare (m : Mem) (p : Int) : Int := if p < 0 ∨ 24 ≤ p then 0 else bareL (m.page p)
def Mem.worn' (m : Mem) (p : Int) : Int := if p < 0 ∨ 24 ≤ p then 0 else m.worn.getD p.toNat 0
def Mem.again (m : Mem) : Mem := ⟨0, 0, false, m.pages, m.worn⟩
theorem Mem.wf.page {m : Mem} {K : Nat} (h : m.wf K) {p : Int} (h0 : 0 ≤ p) (h1 : p < 24) : p.toNat < m.pages.length ∧ (m.page p).length = 4096 := ⟨by rw [h.pl]; omega, h.p _ (by omega)⟩
theorem bareL_255 (l : List UInt8) : bareL (l ++ [255]) = bareL l := by simp [bareL]
theorem bareL_ne (l : List UInt8) (c : UInt8) (h : c ≠ 255) : bareL (l ++ [c]) = l.length + 1 := by simp [bareL, h]
theorem m7read_spec (b : Nat) (o : Option Nat) (m : Mem) (K : Nat) (p pos n : Int) (w : World) (S : BSet) (hS : (sepL [.blk b (Value.map (o) :: i64 (m).ar :: i64 (m).ac :: Value.bool (m).off :: ((m).pages.map str ++ (m).worn.map i64)).toArray 61]).sat S w) (hm : m.wf K) :
    Tri Try.prog 31 #[ptr b 0, i64 p, i64 pos, i64 n] w S fun u A => u = .tuple #[str (m.read p pos n).1, i64 (m.read p pos n).2] ∧ A = [.blk b (Value.map (o) :: i64 (m).ar :: i64 (m).ac :: Value.bool (m).off :: ((m).pages.map str ++ (m).worn.map i64)).toArray 61] := by
  refine Tri.enter (l := [ptr b 0, i64 p, i64 pos, i64 n]) Try.func31 rfl Try.ntmps31 rfl [(0, ptr b 0), (1, i64 p), (2, i64 pos), (3, i64 n)] (subA rfl) hS ?_
  unfold Mem.read
  repeat first
    | (apply WL.q; exact rfl; exact rfl; exact rfl; (first | (apply EvW.move; exact rfl) | (apply EvW.assign; exact rfl)))
    | refine WC.seq ?_ | refine WC.region ?_ | refine WL.nil ?_ | refine WE.next ?_
  try refine WL.wanted rfl rfl rfl ?_
  apply WL.callA ([.blk b (Value.map (o) :: i64 (m).ar :: i64 (m).ac :: Value.bool (m).off :: ((m).pages.map str ++ (m).worn.map i64)).toArray 61])
  · exact rfl
  · exact rfl
  · exact fun w => Try.call47 _ w
  · (focus ((repeat constructor); done))
  · exact fun w1 S1 hS1 hs1 ho1 => place_spec b o m p pos w1 S1 hS1
  rintro _ _ ⟨rfl, rfl⟩
  first | refine WL.app4 ?_ | refine WL.app3 ?_ | refine WL.app2 ?_ | refine WL.app1 ?_ | refine WL.app0 ?_ | skip
  by_cases hpl : m.place p pos = 0
  rotate_left
  · rw [if_pos hpl]
    repeat first
      | (apply WL.q; exact rfl; exact rfl; exact rfl; (first | (apply EvW.move; exact rfl) | (apply EvW.assign; exact rfl) | (apply EvW.cmpT; exact rfl; exact rfl; exact rfl; omega)))
      | refine WC.seq ?_ | refine WC.region ?_ | refine WL.nil ?_ | refine WE.next ?_ | refine WC.condT rfl ?_ | refine WC.ret ?_ | refine WE.passRet ?_
    refine WE.retN (l := [8, 9]) rfl rfl rfl ?_
    exact ⟨rfl, rfl⟩
  rw [if_neg (fun h => h hpl)]
  obtain ⟨hoff, hp, hpos⟩ := place_zero hpl
  obtain ⟨hp1, hp2⟩ := hm.page hp.1 hp.2
  by_cases h1 : n < 0
  · rw [if_pos (.inl h1)]
    repeat first
      | (apply WL.q; exact rfl; exact rfl; exact rfl; (first | (apply EvW.move; exact rfl) | (apply EvW.assign; exact rfl) | (apply EvW.cmpT; exact rfl; exact rfl; exact rfl; omega) | (apply EvW.cmpF; exact rfl; exact rfl; exact rfl; omega) | (apply EvW.pickT; exact rfl; exact rfl)))
      | refine WC.seq ?_ | refine WC.region ?_ | refine WL.nil ?_ | refine WE.next ?_ | refine WC.skip ?_ | refine WC.condT rfl ?_ | refine WC.condF rfl ?_ | refine WC.ret ?_ | refine WE.passRet ?_ | refine WL.unwanted rfl rfl rfl rfl ?_
    refine WE.retN (l := [8, 9]) rfl rfl rfl ?_
    exact ⟨rfl, rfl⟩
  by_cases h2 : 4096 - pos < n
  · rw [if_pos (.inr h2)]
    repeat first
      | (apply WL.q; exact rfl; exact rfl; exact rfl; (first | (apply EvW.move; exact rfl) | (apply EvW.assign; exact rfl) | (apply EvW.cmpT; exact rfl; exact rfl; exact rfl; omega) | (apply EvW.cmpF; exact rfl; exact rfl; exact rfl; omega) | (apply EvW.arN; exact rfl; exact rfl; exact rfl; refine i64_in ?_ ?_ <;> omega) | (apply EvW.pickF; exact rfl; exact rfl)))
      | refine WC.seq ?_ | refine WC.region ?_ | refine WL.nil ?_ | refine WE.next ?_ | refine WC.skip ?_ | refine WC.condT rfl ?_ | refine WC.condF rfl ?_ | refine WC.ret ?_ | refine WE.passRet ?_ | refine WL.wanted rfl rfl rfl ?_
    refine WE.retN (l := [8, 9]) rfl rfl rfl ?_
    exact ⟨rfl, rfl⟩
  rw [if_neg (by omega)]
  repeat first
    | (apply WL.q; exact rfl; exact rfl; exact rfl; (first | (apply EvW.move; exact rfl) | (apply EvW.assign; exact rfl) | (apply EvW.nilPtr; exact rfl) | (apply EvW.fieldAddr0; exact rfl; exact FldC.eq) | (apply EvW.cmpF; exact rfl; exact rfl; exact rfl; omega) | (apply EvW.arN; exact rfl; exact rfl; exact rfl; refine i64_in ?_ ?_ <;> omega) | (apply EvW.pickF; exact rfl; exact rfl) | (apply EvW.idxArr; exact rfl; exact rfl; exact UndC.eq; exact SzC.eq; omega; omega)))
    | refine WC.seq ?_ | refine WC.region ?_ | refine WL.nil ?_ | refine WE.next ?_ | refine WC.skip ?_ | refine WC.condF rfl ?_ | refine WL.wanted rfl rfl rfl ?_
  try refine WL.wanted rfl rfl rfl ?_
  (apply WL.q; exact rfl; exact rfl; exact rfl; (apply EvW.ldBlk (q := str (m.page p)); exact rfl; exact ScalC.eq; (focus ((repeat constructor); done)); (exact at_page hp1)))
  repeat first
    | (apply WL.q; exact rfl; exact rfl; exact rfl; (first | (apply EvW.move; exact rfl) | (apply EvW.assign; exact rfl) | (apply EvW.arN; exact rfl; exact rfl; exact rfl; refine i64_in ?_ ?_ <;> omega) | (apply EvW.sliceS; exact rfl; exact UndC.eq; exact rfl; exact rfl; omega; omega; omega)))
    | refine WL.nil ?_ | refine WE.next ?_ | refine WC.ret ?_
  refine WE.retN (l := [8, 9]) rfl rfl rfl ?_
  exact ⟨rfl, rfl⟩
theorem worn_spec (b : Nat) (o : Option Nat) (m : Mem) (K : Nat) (p : Int) (w : World) (S : BSet) (hS : (sepL [.blk b (Value.map (o) :: i64 (m).ar :: i64 (m).ac :: Value.bool (m).off :: ((m).pages.map str ++ (m).worn.map i64)).toArray 61]).sat S w) (hm : m.wf K) :
    Tri Try.prog 61 #[ptr b 0, i64 p] w S fun u A => u = i64 (m.worn' p) ∧ A = [.blk b (Value.map (o) :: i64 (m).ar :: i64 (m).ac :: Value.bool (m).off :: ((m).pages.map str ++ (m).worn.map i64)).toArray 61] := by
  refine Tri.enter (l := [ptr b 0, i64 p]) Try.func61 rfl Try.ntmps61 rfl [(0, ptr b 0), (1, i64 p)] (subA rfl) hS ?_
  unfold Mem.worn'
  by_cases h1 : p < 0
  · rw [if_pos (.inl h1)]
    repeat first
      | (apply WL.q; exact rfl; exact rfl; exact rfl; (first | (apply EvW.move; exact rfl) | (apply EvW.assign; exact rfl) | (apply EvW.cmpT; exact rfl; exact rfl; exact rfl; omega) | (apply EvW.pickT; exact rfl; exact rfl)))
      | refine WC.seq ?_ | refine WC.region ?_ | refine WL.nil ?_ | refine WE.next ?_ | refine WC.condT rfl ?_ | refine WC.ret ?_ | refine WE.passRet ?_ | refine WL.unwanted rfl rfl rfl rfl ?_
    refine WE.ret1 rfl rfl ?_
    exact ⟨rfl, rfl⟩
  by_cases h2 : 24 ≤ p
  · rw [if_pos (.inr h2)]
    repeat first
      | (apply WL.q; exact rfl; exact rfl; exact rfl; (first | (apply EvW.move; exact rfl) | (apply EvW.assign; exact rfl) | (apply EvW.cmpT; exact rfl; exact rfl; exact rfl; omega) | (apply EvW.cmpF; exact rfl; exact rfl; exact rfl; omega) | (apply EvW.pickF; exact rfl; exact rfl)))
      | refine WC.seq ?_ | refine WC.region ?_ | refine WL.nil ?_ | refine WE.next ?_ | refine WC.condT rfl ?_ | refine WC.ret ?_ | refine WE.passRet ?_ | refine WL.wanted rfl rfl rfl ?_
    refine WE.ret1 rfl rfl ?_
    exact ⟨rfl, rfl⟩
  rw [if_neg (by omega)]
  repeat first
    | (apply WL.q; exact rfl; exact rfl; exact rfl; (first | (apply EvW.move; exact rfl) | (apply EvW.assign; exact rfl) | (apply EvW.nilPtr; exact rfl) | (apply EvW.fieldAddr0; exact rfl; exact FldC.eq) | (apply EvW.cmpF; exact rfl; exact rfl; exact rfl; omega) | (apply EvW.pickF; exact rfl; exact rfl) | (apply EvW.idxArr; exact rfl; exact rfl; exact UndC.eq; exact SzC.eq; omega; omega)))
    | refine WC.seq ?_ | refine WC.region ?_ | refine WL.nil ?_ | refine WE.next ?_ | refine WC.skip ?_ | refine WC.condF rfl ?_ | refine WL.wanted rfl rfl rfl ?_
  try refine WL.wanted rfl rfl rfl ?_
  (apply WL.q; exact rfl; exact rfl; exact rfl; (apply EvW.ldBlk (q := i64 (m.worn.getD p.toNat 0)); exact rfl; exact ScalC.eq; (focus ((repeat constructor); done)); (exact at_worn p.toNat hm.pl (by rw [hm.wl]; omega))))
  repeat first
    | (apply WL.q; exact rfl; exact rfl; exact rfl; (first | (apply EvW.assign; exact rfl)))
    | refine WL.nil ?_ | refine WE.next ?_ | refine WC.ret ?_
  refine WE.ret1 rfl rfl ?_
  exact ⟨rfl, rfl⟩
theorem down_spec (b : Nat) (o : Option Nat) (m : Mem) (r : Bool) (w : World) (S : BSet) (hS : (sepL [.blk b (Value.map (o) :: i64 (m).ar :: i64 (m).ac :: Value.bool (m).off :: ((m).pages.map str ++ (m).worn.map i64)).toArray 61]).sat S w) (hr : m.off = r) :
    Tri Try.prog 18 #[ptr b 0] w S fun u A => u = .bool r ∧ A = [.blk b (Value.map (o) :: i64 (m).ar :: i64 (m).ac :: Value.bool (m).off :: ((m).pages.map str ++ (m).worn.map i64)).toArray 61] := by
  refine Tri.enter (l := [ptr b 0]) Try.func18 rfl Try.ntmps18 rfl [(0, ptr b 0)] (subA rfl) hS ?_
  subst hr
  repeat first
    | (apply WL.q; exact rfl; exact rfl; exact rfl; (first | (apply EvW.move; exact rfl) | (apply EvW.assign; exact rfl) | (apply EvW.nilPtr; exact rfl) | (apply EvW.fieldAddr0; exact rfl; exact FldC.eq) | (apply EvW.load; exact rfl; exact ScalC.eq; (focus ((repeat constructor); done)); exact rfl)))
    | refine WC.seq ?_ | refine WC.region ?_ | refine WL.nil ?_ | refine WE.next ?_ | refine WC.ret ?_
  refine WE.ret1 rfl rfl ?_
  exact ⟨rfl, rfl⟩
theorem erase_spec (b : Nat) (o : Option Nat) (m : Mem) (K : Nat) (mp : List (Int × Value)) (p : Int) (ct : Option Int) (w : World) (S : BSet) (hS : (sepL [.blk b (Value.map (o) :: i64 (m).ar :: i64 (m).ac :: Value.bool (m).off :: ((m).pages.map str ++ (m).worn.map i64)).toArray 61, .omap o mp]).sat S w) (h : m.place p 0 = 0) (hm : m.wf K) (hK : K ≤ 1099511627776) (ho : o = none → mp = []) (hc : mget m.ar mp = ct.map i64) :
    Tri Try.prog 41 #[ptr b 0, i64 p] w S fun u A => u = i64 (m7cutF ct 4096).2 ∧ A = [.blk b (Value.map (o) :: i64 ((m.erased p (m7cutF ct 4096).1).act ct).ar :: i64 ((m.erased p (m7cutF ct 4096).1).act ct).ac :: Value.bool ((m.erased p (m7cutF ct 4096).1).act ct).off :: (((m.erased p (m7cutF ct 4096).1).act ct).pages.map str ++ ((m.erased p (m7cutF ct 4096).1).act ct).worn.map i64)).toArray 61, .omap o (mdel m.ar mp)] := by
  refine Tri.enter (l := [ptr b 0, i64 p]) Try.func41 rfl Try.ntmps41 rfl [(0, ptr b 0), (1, i64 p)] (subA rfl) hS ?_
  obtain ⟨hoff, hp, _⟩ := place_zero h
  obtain ⟨hp1, hp2⟩ := hm.page hp.1 hp.2
  have hw1 : p.toNat < m.worn.length := by rw [hm.wl]; omega
  have hww := hm.w p.toNat (by omega)
  obtain ⟨g1, g2, g3, g4, g5, g6, _, _⟩ := hm
  obtain ⟨n, e, hn⟩ : ∃ n e, m7cutF ct 4096 = (n, e) := ⟨_, _, rfl⟩
  have hn0 : 0 ≤ n ∧ n ≤ 4096 := by
    have : n = (m7cutF ct 4096).1 := by rw [hn]
    rw [this]
    cases ct with
    | none => exact ⟨by decide, by decide⟩
    | some q => show 0 ≤ min (max q 0) 4096 ∧ min (max q 0) 4096 ≤ 4096; omega
  have hb1 := bareB_length n.toNat
  have hd1 : ((m.page p).drop n.toNat).length = (m.page p).length - n.toNat := List.length_drop ..
  rw [hn]
  dsimp only
  repeat first
    | (apply WL.q; exact rfl; exact rfl; exact rfl; (first | (apply EvW.move; exact rfl) | (apply EvW.assign; exact rfl)))
    | refine WC.seq ?_ | refine WC.region ?_ | refine WL.nil ?_ | refine WE.next ?_
  try refine WL.wanted rfl rfl rfl ?_
  apply WL.callA ([.blk b (Value.map (o) :: i64 (m).ar :: i64 (m).ac :: Value.bool (m).off :: ((m).pages.map str ++ (m).worn.map i64)).toArray 61])
  · exact rfl
  · exact rfl
  · exact fun w => Try.call47 _ w
  · (focus ((repeat constructor); done))
  · exact fun w1 S1 hS1 hs1 ho1 => place_spec b o m p 0 w1 S1 hS1
  rintro _ _ ⟨rfl, rfl⟩
  first | refine WL.app4 ?_ | refine WL.app3 ?_ | refine WL.app2 ?_ | refine WL.app1 ?_ | refine WL.app0 ?_ | skip
  rw [h]
  repeat first
    | (apply WL.q; exact rfl; exact rfl; exact rfl; (first | (apply EvW.move; exact rfl) | (apply EvW.assign; exact rfl) | (apply EvW.nilPtr; exact rfl) | (apply EvW.fieldAddr0; exact rfl; exact FldC.eq) | (apply EvW.cmpF; exact rfl; exact rfl; exact rfl; omega)))
    | refine WC.seq ?_ | refine WC.region ?_ | refine WL.nil ?_ | refine WE.next ?_ | refine WC.skip ?_ | refine WC.condF rfl ?_
  try refine WL.wanted rfl rfl rfl ?_
  apply WL.callA ([.blk b (Value.map (o) :: i64 (m).ar :: i64 (m).ac :: Value.bool (m).off :: ((m).pages.map str ++ (m).worn.map i64)).toArray 61, .omap o mp])
  · exact rfl
  · exact rfl
  · exact fun w => Try.call49 _ w
  · (focus ((repeat constructor); done))
  · exact fun w1 S1 hS1 hs1 ho1 => act_spec b o mp m.ar m.ac m.off (m.pages.map str ++ m.worn.map i64) 61 ct 4096 w1 S1 hS1 (by decide) g1 (by omega) g3 (by omega) ho hc
  rintro _ _ ⟨rfl, rfl⟩
  first | refine WL.app4 ?_ | refine WL.app3 ?_ | refine WL.app2 ?_ | refine WL.app1 ?_ | refine WL.app0 ?_ | skip
  rw [hn]
  dsimp only
  repeat first
    | (apply WL.q; exact rfl; exact rfl; exact rfl; (first | (apply EvW.move; exact rfl) | (apply EvW.assign; exact rfl) | (apply EvW.extract; exact rfl; exact rfl)))
    | refine WC.seq ?_ | refine WL.nil ?_ | refine WE.next ?_
  repeat refine WC.seq ?_
  refine WC.keep (xs := [.blk b (Value.map (o) :: i64 (m.act ct).ar :: i64 (m.act ct).ac :: Value.bool (m.act ct).off :: ((m.act ct).pages.map str ++ (m.act ct).worn.map i64)).toArray 61, .omap o (mdel m.ar mp)]) (by repeat constructor) ?_
  apply WC.par _ (fun c : Ch => [.blk b (Value.map (o) :: i64 (m.act ct).ar :: i64 (m.act ct).ac :: Value.bool (m.act ct).off :: ((m.act ct).pages.map str ++ (m.act ct).worn.map i64)).toArray 61, .blk b (Value.map (o) :: i64 ({ m.act ct with pages := m.pages.set p.toNat (bareB n.toNat ++ (m.page p).drop n.toNat) }).ar :: i64 ({ m.act ct with pages := m.pages.set p.toNat (bareB n.toNat ++ (m.page p).drop n.toNat) }).ac :: Value.bool ({ m.act ct with pages := m.pages.set p.toNat (bareB n.toNat ++ (m.page p).drop n.toNat) }).off :: (({ m.act ct with pages := m.pages.set p.toNat (bareB n.toNat ++ (m.page p).drop n.toNat) }).pages.map str ++ ({ m.act ct with pages := m.pages.set p.toNat (bareB n.toNat ++ (m.page p).drop n.toNat) }).worn.map i64)).toArray 61, .omap o (mdel m.ar mp)]) [none, some 16, none] [some 16, none, none] [] Try.mixed
  · (focus ((repeat (first | exact Restr.nil | (apply Restr.keep; exact rfl; exact rfl) | (apply Restr.drop; exact rfl))); done))
  · intro c; exact (by repeat constructor)
  · exact rfl
  · decide +kernel
  · decide +kernel
  · intro c
    (apply Par.quiet _ [true, false, true]; exact rfl; decide +kernel; exact rfl; intro R; refine ⟨_, (by repeat constructor), ?_⟩;
         (first | (apply EvW.move; exact rfl)))
    (apply Par.quiet _ [true, false, true]; exact rfl; decide +kernel; exact rfl; intro R; refine ⟨_, (by repeat constructor), ?_⟩;
         (first | (apply EvW.move; exact rfl)))
    (apply Par.quiet _ [true, false, true]; exact rfl; decide +kernel; exact rfl; intro R; refine ⟨_, (by repeat constructor), ?_⟩;
         (first | (apply EvW.move; exact rfl)))
    apply Par.quiet _ [true, false, true]
    · exact rfl
    · decide +kernel
    · exact rfl
    · intro R
      refine ⟨_, (by repeat constructor), ?_⟩
      apply EvW.callK ([])
      · exact rfl
      · exact fun w => Try.call19 _ w
      · (focus ((repeat constructor); done))
      · exact fun w1 S1 hS1 hs1 ho1 => bare_spec n w1 S1 hS1 hn0.1 hn0.2
      · exact fun _ _ h => h
    (apply Par.quiet _ [true, false, true]; exact rfl; decide +kernel; exact rfl; intro R; refine ⟨_, (by repeat constructor), ?_⟩;
         (first | (apply EvW.move; exact rfl)))
    (apply Par.quiet _ [true, false, true]; exact rfl; decide +kernel; exact rfl; intro R; refine ⟨_, (by repeat constructor), ?_⟩;
         (first | (apply EvW.move; exact rfl)))
    (apply Par.quiet _ [true, false, true]; exact rfl; decide +kernel; exact rfl; intro R; refine ⟨_, (by repeat constructor), ?_⟩;
         (first | (apply EvW.nilPtr; exact rfl)))
    (apply Par.quiet _ [true, false, true]; exact rfl; decide +kernel; exact rfl; intro R; refine ⟨_, (by repeat constructor), ?_⟩;
         (first | (apply EvW.fieldAddr0; exact rfl; exact FldC.eq)))
    (apply Par.quiet _ [true, false, true]; exact rfl; decide +kernel; exact rfl; intro R; refine ⟨_, (by repeat constructor), ?_⟩;
         (first | (apply EvW.idxArr; exact rfl; exact rfl; exact UndC.eq; exact SzC.eq; omega; omega)))
    apply Par.quiet _ [true, false, true]
    · exact rfl
    · decide +kernel
    · exact rfl
    · intro R
      refine ⟨_, (by repeat constructor), ?_⟩
      (apply EvW.load; exact rfl; exact ScalC.eq; (focus ((repeat constructor); done)); exact (show getL _ _ = some (str (m.page p)) from get_page hp1))
    (apply Par.quiet _ [true, false, true]; exact rfl; decide +kernel; exact rfl; intro R; refine ⟨_, (by repeat constructor), ?_⟩;
         (first | (apply EvW.move; exact rfl)))
    (apply Par.quiet _ [true, false, true]; exact rfl; decide +kernel; exact rfl; intro R; refine ⟨_, (by repeat constructor), ?_⟩;
         (first | (apply EvW.sliceS_lo; exact rfl; exact UndC.eq; exact rfl; omega; omega)))
    (apply Par.quiet _ [true, false, true]; exact rfl; decide +kernel; exact rfl; intro R; refine ⟨_, (by repeat constructor), ?_⟩;
         (first | (apply EvW.sadd; exact rfl; exact rfl; (first | omega | (simp only [List.length_append, List.length_cons, List.length_nil]; omega)))))
    (apply Par.quiet _ [true, false, true]; exact rfl; decide +kernel; exact rfl; intro R; refine ⟨_, (by repeat constructor), ?_⟩;
         (first | (apply EvW.nilPtr; exact rfl)))
    (apply Par.quiet _ [true, false, true]; exact rfl; decide +kernel; exact rfl; intro R; refine ⟨_, (by repeat constructor), ?_⟩;
         (first | (apply EvW.fieldAddr0; exact rfl; exact FldC.eq)))
    (apply Par.quiet _ [true, false, true]; exact rfl; decide +kernel; exact rfl; intro R; refine ⟨_, (by repeat constructor), ?_⟩;
         (first | (apply EvW.idxArr; exact rfl; exact rfl; exact UndC.eq; exact SzC.eq; omega; omega)))
    apply Par.eff _ [true, false, false] [false, true, false] [false, false, true]
    · exact rfl
    · exact rfl
    · decide +kernel
    · intro R
      refine ⟨_, _, _, (by repeat constructor), (by repeat constructor), (by repeat constructor), ?_⟩
      (apply EffW.store; exact rfl; exact rfl; exact rfl; exact SzC.eq; exact rfl; (repeat (first | exact UpdC.head (set_page hp1) | apply UpdC.tail)))
    exact Par.nil
  · repeat (first | exact AllN.nil | (apply AllN.cons; (intro c x; (repeat (first | exact IndA.nil | (apply IndA.skip; decide +kernel) | apply IndA.same))))) 
  · repeat (first | exact AllN.nil | (apply AllN.cons; (intro c x; (repeat (first | exact IndT.nil | (apply IndT.skip; decide +kernel) | apply IndT.same))))) 
  · exact fun _ => rfl
  intro c
  refine ⟨_, (by repeat constructor), ?_⟩
  apply WE.writ
  · (focus ((repeat (first | exact Writ.nil | apply Writ.some | apply Writ.none)); done))
  repeat first
    | refine WC.seq ?_ | refine WE.next ?_
  repeat refine WC.seq ?_
  refine WC.keep (xs := [.blk b (Value.map (o) :: i64 ({ m.act ct with pages := m.pages.set p.toNat (bareB n.toNat ++ (m.page p).drop n.toNat) }).ar :: i64 ({ m.act ct with pages := m.pages.set p.toNat (bareB n.toNat ++ (m.page p).drop n.toNat) }).ac :: Value.bool ({ m.act ct with pages := m.pages.set p.toNat (bareB n.toNat ++ (m.page p).drop n.toNat) }).off :: (({ m.act ct with pages := m.pages.set p.toNat (bareB n.toNat ++ (m.page p).drop n.toNat) }).pages.map str ++ ({ m.act ct with pages := m.pages.set p.toNat (bareB n.toNat ++ (m.page p).drop n.toNat) }).worn.map i64)).toArray 61, .omap o (mdel m.ar mp)]) (by repeat constructor) ?_
  apply WC.par _ (fun c : Ch => [.blk b (Value.map (o) :: i64 ({ m.act ct with pages := m.pages.set p.toNat (bareB n.toNat ++ (m.page p).drop n.toNat) }).ar :: i64 ({ m.act ct with pages := m.pages.set p.toNat (bareB n.toNat ++ (m.page p).drop n.toNat) }).ac :: Value.bool ({ m.act ct with pages := m.pages.set p.toNat (bareB n.toNat ++ (m.page p).drop n.toNat) }).off :: (({ m.act ct with pages := m.pages.set p.toNat (bareB n.toNat ++ (m.page p).drop n.toNat) }).pages.map str ++ ({ m.act ct with pages := m.pages.set p.toNat (bareB n.toNat ++ (m.page p).drop n.toNat) }).worn.map i64)).toArray 61, .blk b (Value.map (o) :: i64 ({ m.act ct with pages := m.pages.set p.toNat (bareB n.toNat ++ (m.page p).drop n.toNat), worn := m.worn.set p.toNat (m.worn.getD p.toNat 0 + 1) }).ar :: i64 ({ m.act ct with pages := m.pages.set p.toNat (bareB n.toNat ++ (m.page p).drop n.toNat), worn := m.worn.set p.toNat (m.worn.getD p.toNat 0 + 1) }).ac :: Value.bool ({ m.act ct with pages := m.pages.set p.toNat (bareB n.toNat ++ (m.page p).drop n.toNat), worn := m.worn.set p.toNat (m.worn.getD p.toNat 0 + 1) }).off :: (({ m.act ct with pages := m.pages.set p.toNat (bareB n.toNat ++ (m.page p).drop n.toNat), worn := m.worn.set p.toNat (m.worn.getD p.toNat 0 + 1) }).pages.map str ++ ({ m.act ct with pages := m.pages.set p.toNat (bareB n.toNat ++ (m.page p).drop n.toNat), worn := m.worn.set p.toNat (m.worn.getD p.toNat 0 + 1) }).worn.map i64)).toArray 61, .omap o (mdel m.ar mp)]) [none, some 10, none] [some 10, none, none] [] Try.mixed
  · (focus ((repeat (first | exact Restr.nil | (apply Restr.keep; exact rfl; exact rfl) | (apply Restr.drop; exact rfl))); done))
  · intro c; exact (by repeat constructor)
  · exact rfl
  · decide +kernel
  · decide +kernel
  · intro c
    (apply Par.quiet _ [true, false, true]; exact rfl; decide +kernel; exact rfl; intro R; refine ⟨_, (by repeat constructor), ?_⟩;
         (first | (apply EvW.move; exact rfl)))
    (apply Par.quiet _ [true, false, true]; exact rfl; decide +kernel; exact rfl; intro R; refine ⟨_, (by repeat constructor), ?_⟩;
         (first | (apply EvW.move; exact rfl)))
    (apply Par.quiet _ [true, false, true]; exact rfl; decide +kernel; exact rfl; intro R; refine ⟨_, (by repeat constructor), ?_⟩;
         (first | (apply EvW.nilPtr; exact rfl)))
    (apply Par.quiet _ [true, false, true]; exact rfl; decide +kernel; exact rfl; intro R; refine ⟨_, (by repeat constructor), ?_⟩;
         (first | (apply EvW.fieldAddr0; exact rfl; exact FldC.eq)))
    (apply Par.quiet _ [true, false, true]; exact rfl; decide +kernel; exact rfl; intro R; refine ⟨_, (by repeat constructor), ?_⟩;
         (first | (apply EvW.idxArr; exact rfl; exact rfl; exact UndC.eq; exact SzC.eq; omega; omega)))
    apply Par.quiet _ [true, false, true]
    · exact rfl
    · decide +kernel
    · exact rfl
    · intro R
      refine ⟨_, (by repeat constructor), ?_⟩
      (apply EvW.load; exact rfl; exact ScalC.eq; (focus ((repeat constructor); done)); exact (show getL _ _ = some (i64 (m.worn.getD p.toNat 0)) from get_worn (by show (m.pages.set _ _).length = 24; rw [List.length_set]; exact g5) hw1))
    (apply Par.quiet _ [true, false, true]; exact rfl; decide +kernel; exact rfl; intro R; refine ⟨_, (by repeat constructor), ?_⟩;
         (first | (apply EvW.arN; exact rfl; exact rfl; exact rfl; refine i64_in ?_ ?_ <;> omega)))
    (apply Par.quiet _ [true, false, true]; exact rfl; decide +kernel; exact rfl; intro R; refine ⟨_, (by repeat constructor), ?_⟩;
         (first | (apply EvW.nilPtr; exact rfl)))
    (apply Par.quiet _ [true, false, true]; exact rfl; decide +kernel; exact rfl; intro R; refine ⟨_, (by repeat constructor), ?_⟩;
         (first | (apply EvW.fieldAddr0; exact rfl; exact FldC.eq)))
    (apply Par.quiet _ [true, false, true]; exact rfl; decide +kernel; exact rfl; intro R; refine ⟨_, (by repeat constructor), ?_⟩;
         (first | (apply EvW.idxArr; exact rfl; exact rfl; exact UndC.eq; exact SzC.eq; omega; omega)))
    apply Par.eff _ [true, false, false] [false, true, false] [false, false, true]
    · exact rfl
    · exact rfl
    · decide +kernel
    · intro R
      refine ⟨_, _, _, (by repeat constructor), (by repeat constructor), (by repeat constructor), ?_⟩
      (apply EffW.store; exact rfl; exact rfl; exact rfl; exact SzC.eq; exact rfl; (repeat (first | exact UpdC.head (set_worn (by show (m.pages.set _ _).length = 24; rw [List.length_set]; exact g5) hw1) | apply UpdC.tail)))
    exact Par.nil
  · repeat (first | exact AllN.nil | (apply AllN.cons; (intro c x; (repeat (first | exact IndA.nil | (apply IndA.skip; decide +kernel) | apply IndA.same))))) 
  · repeat (first | exact AllN.nil | (apply AllN.cons; (intro c x; (repeat (first | exact IndT.nil | (apply IndT.skip; decide +kernel) | apply IndT.same))))) 
  · exact fun _ => rfl
  intro c
  refine ⟨_, (by repeat constructor), ?_⟩
  apply WE.writ
  · (focus ((repeat (first | exact Writ.nil | apply Writ.some | apply Writ.none)); done))
  repeat first
    | (apply WL.q; exact rfl; exact rfl; exact rfl; (first | (apply EvW.move; exact rfl) | (apply EvW.assign; exact rfl)))
    | refine WC.seq ?_ | refine WC.region ?_ | refine WL.nil ?_ | refine WE.next ?_ | refine WC.ret ?_
  refine WE.ret1 rfl rfl ?_
  exact ⟨rfl, rfl⟩
end Go.Proofs.Ytknclcjmfgdphaa
namespace Go.Proofs.Ytknclcjmfgdphaa
open Go.RowKit Go.BK
theorem bad_zero {m : Mem} {p pos : Int} {t : List UInt8} (h : m.bad p pos t = 0) : m.place p pos = 0 ∧ (t.length : Int) ≤ 4096 - pos ∧ ((m.page p).take (pos + t.length).toNat).drop pos.toNat = bareB t.length := by
  unfold Mem.bad at h
  by_cases h1 : m.place p pos = 0
  · rw [if_neg (fun k => k h1)] at h
    by_cases h2 : (t.length : Int) > 4096 - pos
    · rw [if_pos h2] at h; exact absurd h (by decide)
    · rw [if_neg h2] at h
      by_cases h3 : ((m.page p).take (pos + t.length).toNat).drop pos.toNat = bareB t.length
      · exact ⟨h1, by omega, h3⟩
      · rw [if_pos h3] at h; exact absurd h (by decide)
  · rw [if_pos h1] at h; exact absurd h h1
theorem cutF_bd (ct : Option Int) (k : Int) (h : 0 ≤ k) : 0 ≤ (m7cutF ct k).1 ∧ (m7cutF ct k).1 ≤ k := by
  cases ct with
  | none => exact ⟨h, Int.le_refl _⟩
  | some q => show 0 ≤ min (max q 0) k ∧ min (max q 0) k ≤ k; omega
theorem burn_spec (b : Nat) (o : Option Nat) (m : Mem) (K : Nat) (mp : List (Int × Value)) (p pos : Int) (v : Value) (ps : List (List UInt8)) (t : List UInt8) (ct : Option Int) (w : World) (S : BSet) (hS : (sepL [.blk b (Value.map (o) :: i64 (m).ar :: i64 (m).ac :: Value.bool (m).off :: ((m).pages.map str ++ (m).worn.map i64)).toArray 61, .omap o mp]).sat S w) (hv : Sees w S (.row 1 v ps.length (ps.map str))) (hpl : ps.length ≤ 140737488355328) (ht : ps.flatten = t) (h : m.bad p pos t = 0) (hm : m.wf K) (hK : K ≤ 1099511627776) (ho : o = none → mp = []) (hc : mget m.ar mp = ct.map i64) :
    Tri Try.prog 26 #[ptr b 0, i64 p, i64 pos, v] w S fun u A => u = i64 (m7cutF ct t.length).2 ∧ A = [.blk b (Value.map (o) :: i64 ((m.burnt p pos t (m7cutF ct t.length).1).act ct).ar :: i64 ((m.burnt p pos t (m7cutF ct t.length).1).act ct).ac :: Value.bool ((m.burnt p pos t (m7cutF ct t.length).1).act ct).off :: (((m.burnt p pos t (m7cutF ct t.length).1).act ct).pages.map str ++ ((m.burnt p pos t (m7cutF ct t.length).1).act ct).worn.map i64)).toArray 61, .omap o (mdel m.ar mp)] := by
  refine Tri.enter (l := [ptr b 0, i64 p, i64 pos, v]) Try.func26 rfl Try.ntmps26 rfl [(0, ptr b 0), (1, i64 p), (2, i64 pos), (3, v)] (subA rfl) hS ?_
  obtain ⟨h1, h2, h3⟩ := bad_zero h
  obtain ⟨hoff, hp, hpos⟩ := place_zero h1
  obtain ⟨hp1, hp2⟩ := hm.page hp.1 hp.2
  obtain ⟨g1, g2, g3, g4, g5, g6, _, _⟩ := hm
  have hn0 := cutF_bd ct t.length (by omega)
  obtain ⟨n, e, hn⟩ : ∃ n e, m7cutF ct t.length = (n, e) := ⟨_, _, rfl⟩
  rw [hn] at hn0 ⊢
  dsimp only at hn0 ⊢
  have l1 : ((m.page p).take pos.toNat).length = pos.toNat := by rw [List.length_take]; omega
  have l2 : (t.take n.toNat).length = n.toNat := by rw [List.length_take]; omega
  have l3 : ((m.page p).drop (pos + n).toNat).length = (m.page p).length - (pos + n).toNat := List.length_drop ..
  repeat first
    | (apply WL.q; exact rfl; exact rfl; exact rfl; (first | (apply EvW.move; exact rfl) | (apply EvW.assign; exact rfl)))
    | refine WC.seq ?_ | refine WC.region ?_ | refine WL.nil ?_ | refine WE.next ?_
  try refine WL.wanted rfl rfl rfl ?_
  apply WL.callA ([.blk b (Value.map (o) :: i64 (m).ar :: i64 (m).ac :: Value.bool (m).off :: ((m).pages.map str ++ (m).worn.map i64)).toArray 61])
  · exact rfl
  · exact rfl
  · exact fun w => Try.call47 _ w
  · (focus ((repeat constructor); done))
  · exact fun w1 S1 hS1 hs1 ho1 => place_spec b o m p pos w1 S1 hS1
  rintro _ _ ⟨rfl, rfl⟩
  first | refine WL.app4 ?_ | refine WL.app3 ?_ | refine WL.app2 ?_ | refine WL.app1 ?_ | refine WL.app0 ?_ | skip
  rw [h1]
  repeat first
    | (apply WL.q; exact rfl; exact rfl; exact rfl; (first | (apply EvW.move; exact rfl) | (apply EvW.assign; exact rfl) | (apply EvW.cmpF; exact rfl; exact rfl; exact rfl; omega)))
    | refine WC.seq ?_ | refine WC.region ?_ | refine WL.nil ?_ | refine WE.next ?_ | refine WC.skip ?_ | refine WC.condF rfl ?_
  try refine WL.wanted rfl rfl rfl ?_
  apply WL.callA ([])
  · exact rfl
  · exact rfl
  · exact fun w => Try.call48 _ w
  · (focus ((repeat constructor); done))
  · exact fun w1 S1 hS1 hs1 ho1 => (fun _ => m7join_spec v ps w1 S1 (hs1 _ hv) hpl (by rw [ht]; omega)) hS1
  rintro _ _ ⟨rfl, rfl⟩
  first | refine WL.app4 ?_ | refine WL.app3 ?_ | refine WL.app2 ?_ | refine WL.app1 ?_ | refine WL.app0 ?_ | skip
  rw [ht]
  repeat first
    | (apply WL.q; exact rfl; exact rfl; exact rfl; (first | (apply EvW.move; exact rfl) | (apply EvW.assign; exact rfl) | (apply EvW.nilPtr; exact rfl) | (apply EvW.fieldAddr0; exact rfl; exact FldC.eq) | (apply EvW.lenS; exact rfl; exact UndC.eq) | (apply EvW.cmpF; exact rfl; exact rfl; exact rfl; omega) | (apply EvW.arN; exact rfl; exact rfl; exact rfl; refine i64_in ?_ ?_ <;> omega) | (apply EvW.idxArr; exact rfl; exact rfl; exact UndC.eq; exact SzC.eq; omega; omega)))
    | refine WC.seq ?_ | refine WC.region ?_ | refine WL.nil ?_ | refine WE.next ?_ | refine WC.skip ?_ | refine WC.condF rfl ?_
  try refine WL.wanted rfl rfl rfl ?_
  (apply WL.q; exact rfl; exact rfl; exact rfl; (apply EvW.ldBlk (q := str (m.page p)); exact rfl; exact ScalC.eq; (focus ((repeat constructor); done)); (exact at_page hp1)))
  repeat first
    | (apply WL.q; exact rfl; exact rfl; exact rfl; (first | (apply EvW.assign; exact rfl)))
    | refine WC.seq ?_ | refine WL.nil ?_ | refine WE.next ?_
  repeat refine WC.seq ?_
  refine WC.keep (xs := [.blk b (Value.map (o) :: i64 (m).ar :: i64 (m).ac :: Value.bool (m).off :: ((m).pages.map str ++ (m).worn.map i64)).toArray 61, .omap o mp]) (by repeat constructor) ?_
  apply WC.par _ (fun c : Ch => [.blk b (Value.map (o) :: i64 (m).ar :: i64 (m).ac :: Value.bool (m).off :: ((m).pages.map str ++ (m).worn.map i64)).toArray 61, .omap o mp]) [none, none] [none, none] [] Try.mixed
  · (focus ((repeat (first | exact Restr.nil | (apply Restr.keep; exact rfl; exact rfl) | (apply Restr.drop; exact rfl))); done))
  · intro c; exact (by repeat constructor)
  · exact rfl
  · decide +kernel
  · decide +kernel
  · intro c
    (apply Par.quiet _ [true, true]; exact rfl; decide +kernel; exact rfl; intro R; refine ⟨_, (by repeat constructor), ?_⟩;
         (first | (apply EvW.move; exact rfl)))
    (apply Par.quiet _ [true, true]; exact rfl; decide +kernel; exact rfl; intro R; refine ⟨_, (by repeat constructor), ?_⟩;
         (first | (apply EvW.move; exact rfl)))
    (apply Par.quiet _ [true, true]; exact rfl; decide +kernel; exact rfl; intro R; refine ⟨_, (by repeat constructor), ?_⟩;
         (first | (apply EvW.move; exact rfl)))
    (apply Par.quiet _ [true, true]; exact rfl; decide +kernel; exact rfl; intro R; refine ⟨_, (by repeat constructor), ?_⟩;
         (first | (apply EvW.move; exact rfl)))
    (apply Par.quiet _ [true, true]; exact rfl; decide +kernel; exact rfl; intro R; refine ⟨_, (by repeat constructor), ?_⟩;
         (first | (apply EvW.lenS; exact rfl; exact UndC.eq)))
    (apply Par.quiet _ [true, true]; exact rfl; decide +kernel; exact rfl; intro R; refine ⟨_, (by repeat constructor), ?_⟩;
         (first | (apply EvW.arN; exact rfl; exact rfl; exact rfl; refine i64_in ?_ ?_ <;> omega)))
    (apply Par.quiet _ [true, true]; exact rfl; decide +kernel; exact rfl; intro R; refine ⟨_, (by repeat constructor), ?_⟩;
         (first | (apply EvW.sliceS; exact rfl; exact UndC.eq; exact rfl; exact rfl; omega; omega; omega)))
    (apply Par.quiet _ [true, true]; exact rfl; decide +kernel; exact rfl; intro R; refine ⟨_, (by repeat constructor), ?_⟩;
         (first | (apply EvW.move; exact rfl)))
    (apply Par.quiet _ [true, true]; exact rfl; decide +kernel; exact rfl; intro R; refine ⟨_, (by repeat constructor), ?_⟩;
         (first | (apply EvW.lenS; exact rfl; exact UndC.eq)))
    apply Par.quiet _ [true, true]
    · exact rfl
    · decide +kernel
    · exact rfl
    · intro R
      refine ⟨_, (by repeat constructor), ?_⟩
      apply EvW.callK ([])
      · exact rfl
      · exact fun w => Try.call19 _ w
      · (focus ((repeat constructor); done))
      · exact fun w1 S1 hS1 hs1 ho1 => bare_spec (t.length : Int) w1 S1 hS1 (by omega) (by omega)
      · exact fun _ _ h => h
    (apply Par.quiet _ [true, true]; exact rfl; decide +kernel; exact rfl; intro R; refine ⟨_, (by repeat constructor), ?_⟩;
         (first | (apply EvW.sne; exact rfl; exact rfl)))
    exact Par.nil
  · repeat (first | exact AllN.nil | (apply AllN.cons; (intro c x; (repeat (first | exact IndA.nil | (apply IndA.skip; decide +kernel) | apply IndA.same))))) 
  · repeat (first | exact AllN.nil | (apply AllN.cons; (intro c x; (repeat (first | exact IndT.nil | (apply IndT.skip; decide +kernel) | apply IndT.same))))) 
  · exact fun _ => rfl
  intro c
  refine ⟨_, (by repeat constructor), ?_⟩
  apply WE.writ
  · (focus ((repeat (first | exact Writ.nil | apply Writ.some | apply Writ.none)); done))
  rw [show ((t.length : Nat) : Int).toNat = t.length from rfl, decide_eq_false (fun k => k h3)]
  repeat first
    | (apply WL.q; exact rfl; exact rfl; exact rfl; (first | (apply EvW.move; exact rfl) | (apply EvW.nilPtr; exact rfl) | (apply EvW.fieldAddr0; exact rfl; exact FldC.eq) | (apply EvW.lenS; exact rfl; exact UndC.eq)))
    | refine WC.seq ?_ | refine WC.region ?_ | refine WE.next ?_ | refine WC.skip ?_ | refine WC.condF rfl ?_
  try refine WL.wanted rfl rfl rfl ?_
  apply WL.callA ([.blk b (Value.map (o) :: i64 (m).ar :: i64 (m).ac :: Value.bool (m).off :: ((m).pages.map str ++ (m).worn.map i64)).toArray 61, .omap o mp])
  · exact rfl
  · exact rfl
  · exact fun w => Try.call49 _ w
  · (focus ((repeat constructor); done))
  · exact fun w1 S1 hS1 hs1 ho1 => act_spec b o mp m.ar m.ac m.off (m.pages.map str ++ m.worn.map i64) 61 ct (t.length : Int) w1 S1 hS1 (by omega) g1 (by omega) g3 (by omega) ho hc
  rintro _ _ ⟨rfl, rfl⟩
  first | refine WL.app4 ?_ | refine WL.app3 ?_ | refine WL.app2 ?_ | refine WL.app1 ?_ | refine WL.app0 ?_ | skip
  rw [hn]
  dsimp only
  repeat first
    | (apply WL.q; exact rfl; exact rfl; exact rfl; (first | (apply EvW.move; exact rfl) | (apply EvW.assign; exact rfl) | (apply EvW.extract; exact rfl; exact rfl)))
    | refine WC.seq ?_ | refine WL.nil ?_ | refine WE.next ?_
  repeat refine WC.seq ?_
  refine WC.keep (xs := [.blk b (Value.map (o) :: i64 (m.act ct).ar :: i64 (m.act ct).ac :: Value.bool (m.act ct).off :: ((m.act ct).pages.map str ++ (m.act ct).worn.map i64)).toArray 61, .omap o (mdel m.ar mp)]) (by repeat constructor) ?_
  apply WC.par _ (fun c : Ch => [.blk b (Value.map (o) :: i64 (m.act ct).ar :: i64 (m.act ct).ac :: Value.bool (m.act ct).off :: ((m.act ct).pages.map str ++ (m.act ct).worn.map i64)).toArray 61, .blk b (Value.map (o) :: i64 ((m.burnt p pos t n).act ct).ar :: i64 ((m.burnt p pos t n).act ct).ac :: Value.bool ((m.burnt p pos t n).act ct).off :: (((m.burnt p pos t n).act ct).pages.map str ++ ((m.burnt p pos t n).act ct).worn.map i64)).toArray 61, .omap o (mdel m.ar mp)]) [none, some 18, none] [some 18, none, none] [] Try.mixed
  · (focus ((repeat (first | exact Restr.nil | (apply Restr.keep; exact rfl; exact rfl) | (apply Restr.drop; exact rfl))); done))
  · intro c; exact (by repeat constructor)
  · exact rfl
  · decide +kernel
  · decide +kernel
  · intro c
    (apply Par.quiet _ [true, false, true]; exact rfl; decide +kernel; exact rfl; intro R; refine ⟨_, (by repeat constructor), ?_⟩;
         (first | (apply EvW.move; exact rfl)))
    (apply Par.quiet _ [true, false, true]; exact rfl; decide +kernel; exact rfl; intro R; refine ⟨_, (by repeat constructor), ?_⟩;
         (first | (apply EvW.move; exact rfl)))
    (apply Par.quiet _ [true, false, true]; exact rfl; decide +kernel; exact rfl; intro R; refine ⟨_, (by repeat constructor), ?_⟩;
         (first | (apply EvW.move; exact rfl)))
    (apply Par.quiet _ [true, false, true]; exact rfl; decide +kernel; exact rfl; intro R; refine ⟨_, (by repeat constructor), ?_⟩;
         (first | (apply EvW.move; exact rfl)))
    (apply Par.quiet _ [true, false, true]; exact rfl; decide +kernel; exact rfl; intro R; refine ⟨_, (by repeat constructor), ?_⟩;
         (first | (apply EvW.sliceS_hi; exact rfl; exact UndC.eq; exact rfl; omega; omega)))
    (apply Par.quiet _ [true, false, true]; exact rfl; decide +kernel; exact rfl; intro R; refine ⟨_, (by repeat constructor), ?_⟩;
         (first | (apply EvW.move; exact rfl)))
    (apply Par.quiet _ [true, false, true]; exact rfl; decide +kernel; exact rfl; intro R; refine ⟨_, (by repeat constructor), ?_⟩;
         (first | (apply EvW.move; exact rfl)))
    (apply Par.quiet _ [true, false, true]; exact rfl; decide +kernel; exact rfl; intro R; refine ⟨_, (by repeat constructor), ?_⟩;
         (first | (apply EvW.sliceS_hi; exact rfl; exact UndC.eq; exact rfl; omega; omega)))
    apply Par.quiet _ [true, false, true]
    · exact rfl
    · decide +kernel
    · exact rfl
    · intro R
      refine ⟨_, (by repeat constructor), ?_⟩
      (apply EvW.sadd; exact rfl; exact rfl; (rw [l1, l2]; omega))
    (apply Par.quiet _ [true, false, true]; exact rfl; decide +kernel; exact rfl; intro R; refine ⟨_, (by repeat constructor), ?_⟩;
         (first | (apply EvW.move; exact rfl)))
    (apply Par.quiet _ [true, false, true]; exact rfl; decide +kernel; exact rfl; intro R; refine ⟨_, (by repeat constructor), ?_⟩;
         (first | (apply EvW.move; exact rfl)))
    (apply Par.quiet _ [true, false, true]; exact rfl; decide +kernel; exact rfl; intro R; refine ⟨_, (by repeat constructor), ?_⟩;
         (first | (apply EvW.move; exact rfl)))
    (apply Par.quiet _ [true, false, true]; exact rfl; decide +kernel; exact rfl; intro R; refine ⟨_, (by repeat constructor), ?_⟩;
         (first | (apply EvW.arN; exact rfl; exact rfl; exact rfl; refine i64_in ?_ ?_ <;> omega)))
    (apply Par.quiet _ [true, false, true]; exact rfl; decide +kernel; exact rfl; intro R; refine ⟨_, (by repeat constructor), ?_⟩;
         (first | (apply EvW.sliceS_lo; exact rfl; exact UndC.eq; exact rfl; omega; omega)))
    apply Par.quiet _ [true, false, true]
    · exact rfl
    · decide +kernel
    · exact rfl
    · intro R
      refine ⟨_, (by repeat constructor), ?_⟩
      (apply EvW.sadd; exact rfl; exact rfl; (rw [List.length_append, l1, l2, l3]; omega))
    (apply Par.quiet _ [true, false, true]; exact rfl; decide +kernel; exact rfl; intro R; refine ⟨_, (by repeat constructor), ?_⟩;
         (first | (apply EvW.nilPtr; exact rfl)))
    (apply Par.quiet _ [true, false, true]; exact rfl; decide +kernel; exact rfl; intro R; refine ⟨_, (by repeat constructor), ?_⟩;
         (first | (apply EvW.fieldAddr0; exact rfl; exact FldC.eq)))
    (apply Par.quiet _ [true, false, true]; exact rfl; decide +kernel; exact rfl; intro R; refine ⟨_, (by repeat constructor), ?_⟩;
         (first | (apply EvW.idxArr; exact rfl; exact rfl; exact UndC.eq; exact SzC.eq; omega; omega)))
    apply Par.eff _ [true, false, false] [false, true, false] [false, false, true]
    · exact rfl
    · exact rfl
    · decide +kernel
    · intro R
      refine ⟨_, _, _, (by repeat constructor), (by repeat constructor), (by repeat constructor), ?_⟩
      (apply EffW.store; exact rfl; exact rfl; exact rfl; exact SzC.eq; exact rfl; (repeat (first | exact UpdC.head (set_page hp1) | apply UpdC.tail)))
    exact Par.nil
  · repeat (first | exact AllN.nil | (apply AllN.cons; (intro c x; (repeat (first | exact IndA.nil | (apply IndA.skip; decide +kernel) | apply IndA.same))))) 
  · repeat (first | exact AllN.nil | (apply AllN.cons; (intro c x; (repeat (first | exact IndT.nil | (apply IndT.skip; decide +kernel) | apply IndT.same))))) 
  · exact fun _ => rfl
  intro c
  refine ⟨_, (by repeat constructor), ?_⟩
  apply WE.writ
  · (focus ((repeat (first | exact Writ.nil | apply Writ.some | apply Writ.none)); done))
  repeat first
    | (apply WL.q; exact rfl; exact rfl; exact rfl; (first | (apply EvW.move; exact rfl) | (apply EvW.assign; exact rfl)))
    | refine WC.seq ?_ | refine WC.region ?_ | refine WL.nil ?_ | refine WE.next ?_ | refine WC.ret ?_
  refine WE.ret1 rfl rfl ?_
  exact ⟨rfl, rfl⟩
theorem bareOf_spec (b : Nat) (o : Option Nat) (m : Mem) (K : Nat) (p : Int) (w : World) (S : BSet) (hS : (sepL [.blk b (Value.map (o) :: i64 (m).ar :: i64 (m).ac :: Value.bool (m).off :: ((m).pages.map str ++ (m).worn.map i64)).toArray 61]).sat S w) (hm : m.wf K) :
    Tri Try.prog 40 #[ptr b 0, i64 p] w S fun u A => u = i64 (m.bare p) ∧ A = [.blk b (Value.map (o) :: i64 (m).ar :: i64 (m).ac :: Value.bool (m).off :: ((m).pages.map str ++ (m).worn.map i64)).toArray 61] := by
  refine Tri.enter (l := [ptr b 0, i64 p]) Try.func40 rfl Try.ntmps40 rfl [(0, ptr b 0), (1, i64 p)] (subA rfl) hS ?_
  unfold Mem.bare
  by_cases h1 : p < 0
  · rw [if_pos (.inl h1)]
    repeat first
      | (apply WL.q; exact rfl; exact rfl; exact rfl; (first | (apply EvW.move; exact rfl) | (apply EvW.assign; exact rfl) | (apply EvW.cmpT; exact rfl; exact rfl; exact rfl; omega) | (apply EvW.pickT; exact rfl; exact rfl)))
      | refine WC.seq ?_ | refine WC.region ?_ | refine WL.nil ?_ | refine WE.next ?_ | refine WC.condT rfl ?_ | refine WC.ret ?_ | refine WE.passRet ?_ | refine WL.unwanted rfl rfl rfl rfl ?_
    refine WE.ret1 rfl rfl ?_
    exact ⟨rfl, rfl⟩
  by_cases h2 : 24 ≤ p
  · rw [if_pos (.inr h2)]
    repeat first
      | (apply WL.q; exact rfl; exact rfl; exact rfl; (first | (apply EvW.move; exact rfl) | (apply EvW.assign; exact rfl) | (apply EvW.cmpT; exact rfl; exact rfl; exact rfl; omega) | (apply EvW.cmpF; exact rfl; exact rfl; exact rfl; omega) | (apply EvW.pickF; exact rfl; exact rfl)))
      | refine WC.seq ?_ | refine WC.region ?_ | refine WL.nil ?_ | refine WE.next ?_ | refine WC.condT rfl ?_ | refine WC.ret ?_ | refine WE.passRet ?_ | refine WL.wanted rfl rfl rfl ?_
    refine WE.ret1 rfl rfl ?_
    exact ⟨rfl, rfl⟩
  rw [if_neg (by omega)]
  obtain ⟨hp1, hp2⟩ := hm.page (p := p) (by omega) (by omega)
  repeat first
    | (apply WL.q; exact rfl; exact rfl; exact rfl; (first | (apply EvW.move; exact rfl) | (apply EvW.assign; exact rfl) | (apply EvW.cmpF; exact rfl; exact rfl; exact rfl; omega) | (apply EvW.pickF; exact rfl; exact rfl)))
    | refine WC.seq ?_ | refine WC.region ?_ | refine WL.nil ?_ | refine WE.next ?_ | refine WC.block ?_ | refine WC.skip ?_ | refine WC.condF rfl ?_ | refine WL.wanted rfl rfl rfl ?_
  refine WC.loopK (σ := Nat) [0, 1] (fun s => [(5, i64 s)]) (fun s => [.blk b (Value.map (o) :: i64 (m).ar :: i64 (m).ac :: Value.bool (m).off :: ((m).pages.map str ++ (m).worn.map i64)).toArray 61]) (fun s => s ≤ 4096 ∧ bareL (m.page p) = bareL ((m.page p).take s)) (fun s => s) 4096 (by (focus ((repeat (first | exact Pick.nil | (apply Pick.cons; exact rfl))); done))) (by (focus ((repeat (first | exact trivial | (refine ⟨rfl, ?_⟩))); done))) (fun _ h => h.keep (by repeat constructor)) ⟨Nat.le_refl _, by rw [List.take_of_length_le (by omega)]⟩ (fun s hs => ?_)
  obtain ⟨k, rfl⟩ : ∃ q, q = s := ⟨s, rfl⟩
  simp only [List.cons_append, List.nil_append] at hs ⊢
  obtain ⟨hk, hB⟩ := hs
  by_cases h0 : (k : Int) > 0
  · have htk : (m.page p).take k = (m.page p).take (k - 1) ++ [(m.page p).getD (k - 1) 0] := by
      obtain ⟨j, rfl⟩ : ∃ j, k = j + 1 := ⟨k - 1, by omega⟩
      rw [Nat.add_sub_cancel, List.take_add_one, getD_some (d := 0) (by omega)]; rfl
    by_cases hc : (((m.page p).getD ((k : Int) - 1).toNat 0).toNat : Int) = 255
    · have hnx : bareL (m.page p) = bareL ((m.page p).take (k - 1)) := by
        have hcc : (m.page p).getD (k - 1) 0 = 255 := UInt8.toNat_inj.1 (by rw [show ((k : Int) - 1).toNat = k - 1 by omega] at hc; show _ = 255; omega)
        rw [hB, htk, hcc, bareL_255]
      repeat first
        | (apply WL.q; exact rfl; exact rfl; exact rfl; (first | (apply EvW.move; exact rfl) | (apply EvW.nilPtr; exact rfl) | (apply EvW.fieldAddr0; exact rfl; exact FldC.eq) | (apply EvW.cmpT; exact rfl; exact rfl; exact rfl; omega) | (apply EvW.idxArr; exact rfl; exact rfl; exact UndC.eq; exact SzC.eq; omega; omega)))
        | refine WC.seq ?_ | refine WC.region ?_ | refine WL.wanted rfl rfl rfl ?_
      try refine WL.wanted rfl rfl rfl ?_
      (apply WL.q; exact rfl; exact rfl; exact rfl; (apply EvW.ldBlk (q := str (m.page p)); exact rfl; exact ScalC.eq; (focus ((repeat constructor); done)); (exact at_page hp1)))
      repeat first
        | (apply WL.q; exact rfl; exact rfl; exact rfl; (first | (apply EvW.move; exact rfl) | (apply EvW.assign; exact rfl) | (apply EvW.cmpT; exact rfl; exact rfl; exact rfl; omega) | (apply EvW.arN; exact rfl; exact rfl; exact rfl; refine i64_in ?_ ?_ <;> omega) | (apply EvW.pickT; exact rfl; exact rfl) | (apply EvW.index; exact rfl; exact rfl; exact UndC.eq; omega; omega)))
        | refine WC.region ?_ | refine WL.nil ?_ | refine WE.next ?_ | refine WC.block ?_ | refine WC.skip ?_ | refine WE.out ?_ | refine WC.condT rfl ?_ | refine WL.wanted rfl rfl rfl ?_
      rw [show (k : Int) - 1 = ((k - 1 : Nat) : Int) by omega]
      exact WE.again (s := k) ((k - 1)) ⟨by omega, hnx⟩ (by (focus ((repeat (first | exact trivial | (refine ⟨rfl, ?_⟩))); done))) (fun _ h => (by (try simp only []); exact h.keep (by repeat constructor))) (by (try simp only []); omega)
    · repeat first
        | (apply WL.q; exact rfl; exact rfl; exact rfl; (first | (apply EvW.move; exact rfl) | (apply EvW.nilPtr; exact rfl) | (apply EvW.fieldAddr0; exact rfl; exact FldC.eq) | (apply EvW.cmpT; exact rfl; exact rfl; exact rfl; omega) | (apply EvW.idxArr; exact rfl; exact rfl; exact UndC.eq; exact SzC.eq; omega; omega)))
        | refine WC.seq ?_ | refine WC.region ?_ | refine WL.wanted rfl rfl rfl ?_
      try refine WL.wanted rfl rfl rfl ?_
      (apply WL.q; exact rfl; exact rfl; exact rfl; (apply EvW.ldBlk (q := str (m.page p)); exact rfl; exact ScalC.eq; (focus ((repeat constructor); done)); (exact at_page hp1)))
      repeat first
        | (apply WL.q; exact rfl; exact rfl; exact rfl; (first | (apply EvW.move; exact rfl) | (apply EvW.assign; exact rfl) | (apply EvW.cmpF; exact rfl; exact rfl; exact rfl; omega) | (apply EvW.arN; exact rfl; exact rfl; exact rfl; refine i64_in ?_ ?_ <;> omega) | (apply EvW.pickT; exact rfl; exact rfl) | (apply EvW.index; exact rfl; exact rfl; exact UndC.eq; omega; omega)))
        | refine WC.seq ?_ | refine WC.region ?_ | refine WL.nil ?_ | refine WE.next ?_ | refine WC.exit ?_ | refine WE.pass ?_ | refine WE.hit ?_ | refine WC.condF rfl ?_ | refine WC.ret ?_ | refine WL.wanted rfl rfl rfl ?_
      refine WE.ret1 rfl rfl ?_
      refine ⟨?_, rfl⟩
      have hcc : (m.page p).getD (k - 1) 0 ≠ 255 := fun e => hc (by rw [show ((k : Int) - 1).toNat = k - 1 by omega, e]; rfl)
      rw [hB, htk, bareL_ne _ _ hcc, List.length_take]
      congr 1
      omega
  · obtain rfl : k = 0 := by omega
    repeat first
      | (apply WL.q; exact rfl; exact rfl; exact rfl; (first | (apply EvW.move; exact rfl) | (apply EvW.assign; exact rfl) | (apply EvW.cmpF; exact rfl; exact rfl; exact rfl; omega) | (apply EvW.pickF; exact rfl; exact rfl)))
      | refine WC.seq ?_ | refine WC.region ?_ | refine WL.nil ?_ | refine WE.next ?_ | refine WC.exit ?_ | refine WE.pass ?_ | refine WE.hit ?_ | refine WC.condF rfl ?_ | refine WC.ret ?_ | refine WL.unwanted rfl rfl rfl rfl ?_
    refine WE.ret1 rfl rfl ?_
    refine ⟨?_, rfl⟩
    rw [hB]; rfl
end Go.Proofs.Ytknclcjmfgdphaa
namespace Go.Proofs.Ytknclcjmfgdphaa
open Go.RowKit Go.BK
def fillP (i : Nat) : List (List UInt8) := List.replicate i (bareB 4096) ++ List.replicate (24 - i) []
theorem fillP_length (i : Nat) (h : i ≤ 24) : (fillP i).length = 24 := by unfold fillP; rw [List.length_append, List.length_replicate, List.length_replicate]; omega
theorem fillP_set (i : Nat) (h : i < 24) : (fillP i).set i (bareB 4096) = fillP (i + 1) := by
  unfold fillP
  rw [List.set_append_right _ _ (by rw [List.length_replicate]; exact Nat.le_refl _), List.length_replicate, Nat.sub_self, show 24 - i = (24 - (i + 1)) + 1 by omega, List.replicate_succ, List.set_cons_zero, List.replicate_succ', List.append_assoc]
  rfl
theorem fillP_all : fillP 24 = List.replicate 24 (bareB 4096) := by unfold fillP; rw [Nat.sub_self, List.replicate_zero, List.append_nil]
theorem getD_rep {α : Type} (n : Nat) (a d : α) {i : Nat} (h : i < n) : (List.replicate n a).getD i d = a := by
  rw [List.getD_eq_getElem?_getD, List.getElem?_replicate_of_lt h]; rfl
theorem new_wf : Mem.new.wf 0 := ⟨by decide, by decide, by decide, by decide, rfl, rfl, fun i h => by
  show ((List.replicate 24 (bareB 4096)).getD i []).length = 4096
  rw [getD_rep 24 _ _ h, bareB_length], fun i h => by
  show 0 ≤ (List.replicate 24 (0 : Int)).getD i 0 ∧ (List.replicate 24 (0 : Int)).getD i 0 ≤ ((0 : Nat) : Int)
  rw [getD_rep 24 _ _ h]; decide⟩
theorem sub_pages {x0 x1 x2 x3 : Value} {ps : List (List UInt8)} {r : List Value} (h : ps.length = 24) : SubL (x0 :: x1 :: x2 :: x3 :: (ps.map str ++ r)) 4 24 (ps.map str) := by
  have := SubL.all (ps.map str) r
  rw [List.length_map, h] at this
  exact .succ (.succ (.succ (.succ this)))
theorem sub_worn {x0 x1 x2 x3 : Value} {ps : List (List UInt8)} {ws : List Int} (h : ps.length = 24) (hw : ws.length = 24) : SubL (x0 :: x1 :: x2 :: x3 :: (ps.map str ++ ws.map i64)) 28 24 (ws.map i64) := by
  have := SubL.all (ws.map i64) []
  rw [List.length_map, hw, List.append_nil] at this
  have := this.behind (ps.map str)
  rw [List.length_map, h] at this
  exact .succ (.succ (.succ (.succ this)))
theorem fill_pages {z0 z1 z2 z3 : Value} {ps : List (List UInt8)} (h : ps.length = 24) : SetMany (z0 :: z1 :: z2 :: z3 :: (List.replicate 24 (str []) ++ List.replicate 24 (i64 0))) 4 (ps.map str) (z0 :: z1 :: z2 :: z3 :: (ps.map str ++ List.replicate 24 (i64 0))) :=
  .succ (.succ (.succ (.succ (SetMany.all _ _ _ (by rw [List.length_replicate, List.length_map, h])))))
theorem fill_worn {z0 z1 z2 z3 : Value} {ps : List (List UInt8)} {ws : List Int} (h : ps.length = 24) (hw : ws.length = 24) : SetMany (z0 :: z1 :: z2 :: z3 :: (ps.map str ++ List.replicate 24 (i64 0))) 28 (ws.map i64) (z0 :: z1 :: z2 :: z3 :: (ps.map str ++ ws.map i64)) := by
  have := SetMany.all (List.replicate 24 (i64 0)) (ws.map i64) [] (by rw [List.length_replicate, List.length_map, hw])
  rw [List.append_nil, List.append_nil] at this
  have := this.behind (ps.map str)
  rw [List.length_map, h] at this
  exact .succ (.succ (.succ (.succ this)))
theorem again_wf {m : Mem} {K : Nat} (h : m.wf K) : m.again.wf K := ⟨Int.le_refl _, by show (0 : Int) ≤ K; omega, Int.le_refl _, by show (0 : Int) ≤ K; omega, h.pl, h.wl, h.p, h.w⟩
theorem m7new_spec  (w : World) (S : BSet) (hS : (sepL []).sat S w)  :
    Tri Try.prog 10 #[] w S fun u A => ∃ b, u = ptr b 0 ∧ A = [.blk b (Value.map (none) :: i64 (Mem.new).ar :: i64 (Mem.new).ac :: Value.bool (Mem.new).off :: ((Mem.new).pages.map str ++ (Mem.new).worn.map i64)).toArray 61] := by
  refine Tri.enter (l := []) Try.func10 rfl Try.ntmps10 rfl [] (subA rfl) hS ?_
  repeat first
    | (apply WL.q; exact rfl; exact rfl; exact rfl; (first | (apply EvW.assign; exact rfl) | (apply EvW.build; exact PlC.eq; exact ZvC.eq; exact rfl; exact rfl; (focus ((repeat (first | exact Fills.nil | (apply Fills.cons; exact rfl; (first | assumption | exact rfl); exact rfl) | exact SetMany.nil | apply SetMany.cons | apply SetMany.succ)); done)))))
    | refine WC.seq ?_ | refine WC.region ?_ | refine WL.nil ?_ | refine WE.next ?_
  try refine WL.wanted rfl rfl rfl ?_
  (apply WL.box; exact rfl; exact rfl; exact rfl; intro b)
  repeat first
    | (apply WL.q; exact rfl; exact rfl; exact rfl; (first | (apply EvW.move; exact rfl) | (apply EvW.assign; exact rfl)))
    | refine WC.seq ?_ | refine WC.region ?_ | refine WL.nil ?_ | refine WE.next ?_ | refine WC.block ?_
  refine WC.loopK (σ := Nat) [1] (fun s => [(5, i64 s)]) (fun s => [.blk b (Value.map (none) :: i64 (Mem.mk 0 0 false (fillP s) (List.replicate 24 0)).ar :: i64 (Mem.mk 0 0 false (fillP s) (List.replicate 24 0)).ac :: Value.bool (Mem.mk 0 0 false (fillP s) (List.replicate 24 0)).off :: ((Mem.mk 0 0 false (fillP s) (List.replicate 24 0)).pages.map str ++ (Mem.mk 0 0 false (fillP s) (List.replicate 24 0)).worn.map i64)).toArray 61]) (fun s => s ≤ 24) (fun s => 24 - s) 0 (by (focus ((repeat (first | exact Pick.nil | (apply Pick.cons; exact rfl))); done))) (by (focus ((repeat (first | exact trivial | (refine ⟨rfl, ?_⟩))); done))) (fun _ h => h.keep (by repeat constructor)) (Nat.zero_le _) (fun s hs => ?_)
  obtain ⟨i, rfl⟩ : ∃ q, q = s := ⟨s, rfl⟩
  simp only [List.cons_append, List.nil_append] at hs ⊢
  by_cases hlt : (i : Int) < 24
  · have hfs := fillP_set i (by omega)
    have hfl := fillP_length i (by omega)
    repeat first
      | (apply WL.q; exact rfl; exact rfl; exact rfl; (first | (apply EvW.move; exact rfl) | (apply EvW.assign; exact rfl) | (apply EvW.cmpT; exact rfl; exact rfl; exact rfl; omega)))
      | refine WC.seq ?_ | refine WC.region ?_ | refine WL.nil ?_ | refine WE.next ?_ | refine WC.block ?_ | refine WC.skip ?_ | refine WC.condT rfl ?_
    repeat refine WC.seq ?_
    refine WC.keep (xs := [.blk b (Value.map (none) :: i64 (Mem.mk 0 0 false (fillP i) (List.replicate 24 0)).ar :: i64 (Mem.mk 0 0 false (fillP i) (List.replicate 24 0)).ac :: Value.bool (Mem.mk 0 0 false (fillP i) (List.replicate 24 0)).off :: ((Mem.mk 0 0 false (fillP i) (List.replicate 24 0)).pages.map str ++ (Mem.mk 0 0 false (fillP i) (List.replicate 24 0)).worn.map i64)).toArray 61]) (by repeat constructor) ?_
    apply WC.par _ (fun c : Ch => [.blk b (Value.map (none) :: i64 (Mem.mk 0 0 false (fillP i) (List.replicate 24 0)).ar :: i64 (Mem.mk 0 0 false (fillP i) (List.replicate 24 0)).ac :: Value.bool (Mem.mk 0 0 false (fillP i) (List.replicate 24 0)).off :: ((Mem.mk 0 0 false (fillP i) (List.replicate 24 0)).pages.map str ++ (Mem.mk 0 0 false (fillP i) (List.replicate 24 0)).worn.map i64)).toArray 61, .blk b (Value.map (none) :: i64 (Mem.mk 0 0 false (fillP (i + 1)) (List.replicate 24 0)).ar :: i64 (Mem.mk 0 0 false (fillP (i + 1)) (List.replicate 24 0)).ac :: Value.bool (Mem.mk 0 0 false (fillP (i + 1)) (List.replicate 24 0)).off :: ((Mem.mk 0 0 false (fillP (i + 1)) (List.replicate 24 0)).pages.map str ++ (Mem.mk 0 0 false (fillP (i + 1)) (List.replicate 24 0)).worn.map i64)).toArray 61]) [none, some 6] [some 6, none] [] Try.mixed
    · (focus ((repeat (first | exact Restr.nil | (apply Restr.keep; exact rfl; exact rfl) | (apply Restr.drop; exact rfl))); done))
    · intro c; exact (by repeat constructor)
    · exact rfl
    · decide +kernel
    · decide +kernel
    · intro c
      (apply Par.quiet _ [true, false]; exact rfl; decide +kernel; exact rfl; intro R; refine ⟨_, (by repeat constructor), ?_⟩;
           (first | (apply EvW.move; exact rfl)))
      (apply Par.quiet _ [true, false]; exact rfl; decide +kernel; exact rfl; intro R; refine ⟨_, (by repeat constructor), ?_⟩;
           (first | (apply EvW.move; exact rfl)))
      apply Par.quiet _ [true, false]
      · exact rfl
      · decide +kernel
      · exact rfl
      · intro R
        refine ⟨_, (by repeat constructor), ?_⟩
        apply EvW.callK ([])
        · exact rfl
        · exact fun w => Try.call19 _ w
        · (focus ((repeat constructor); done))
        · exact fun w1 S1 hS1 hs1 ho1 => bare_spec 4096 w1 S1 hS1 (by decide) (by decide)
        · exact fun _ _ h => h
      (apply Par.quiet _ [true, false]; exact rfl; decide +kernel; exact rfl; intro R; refine ⟨_, (by repeat constructor), ?_⟩;
           (first | (apply EvW.nilPtr; exact rfl)))
      (apply Par.quiet _ [true, false]; exact rfl; decide +kernel; exact rfl; intro R; refine ⟨_, (by repeat constructor), ?_⟩;
           (first | (apply EvW.fieldAddr0; exact rfl; exact FldC.eq)))
      (apply Par.quiet _ [true, false]; exact rfl; decide +kernel; exact rfl; intro R; refine ⟨_, (by repeat constructor), ?_⟩;
           (first | (apply EvW.idxArr; exact rfl; exact rfl; exact UndC.eq; exact SzC.eq; omega; omega)))
      apply Par.eff _ [true, false] [false, true] [false, false]
      · exact rfl
      · exact rfl
      · decide +kernel
      · intro R
        refine ⟨_, _, _, (by repeat constructor), (by repeat constructor), (by repeat constructor), ?_⟩
        (apply EffW.store; exact rfl; exact rfl; exact rfl; exact SzC.eq; exact rfl; (rw [← hfs]); (repeat (first | exact UpdC.head (set_page (by show i < (fillP i).length; omega)) | apply UpdC.tail)))
      exact Par.nil
    · repeat (first | exact AllN.nil | (apply AllN.cons; (intro c x; (repeat (first | exact IndA.nil | (apply IndA.skip; decide +kernel) | apply IndA.same))))) 
    · repeat (first | exact AllN.nil | (apply AllN.cons; (intro c x; (repeat (first | exact IndT.nil | (apply IndT.skip; decide +kernel) | apply IndT.same))))) 
    · exact fun _ => rfl
    intro c
    refine ⟨_, (by repeat constructor), ?_⟩
    apply WE.writ
    · (focus ((repeat (first | exact Writ.nil | apply Writ.some | apply Writ.none)); done))
    repeat first
      | (apply WL.q; exact rfl; exact rfl; exact rfl; (first | (apply EvW.move; exact rfl) | (apply EvW.arN; exact rfl; exact rfl; exact rfl; refine i64_in ?_ ?_ <;> omega)))
      | refine WC.region ?_ | refine WL.nil ?_ | refine WE.next ?_ | refine WE.out ?_
    exact WE.again (s := i) ((i + 1)) (by omega) (by (focus ((repeat (first | exact trivial | (refine ⟨rfl, ?_⟩))); done))) (fun _ h => (by (try simp only []); exact h.keep (by repeat constructor))) (by (try simp only []); omega)
  · obtain rfl : i = 24 := by omega
    rw [fillP_all]
    repeat first
      | (apply WL.q; exact rfl; exact rfl; exact rfl; (first | (apply EvW.move; exact rfl) | (apply EvW.assign; exact rfl) | (apply EvW.cmpF; exact rfl; exact rfl; exact rfl; omega)))
      | refine WC.seq ?_ | refine WC.region ?_ | refine WL.nil ?_ | refine WE.next ?_ | refine WC.exit ?_ | refine WE.pass ?_ | refine WE.hit ?_ | refine WC.condF rfl ?_ | refine WC.ret ?_
    refine WE.ret1 rfl rfl ?_
    exact ⟨b, rfl, rfl⟩
theorem again_spec (b : Nat) (o : Option Nat) (m : Mem) (K : Nat) (w : World) (S : BSet) (hS : (sepL [.blk b (Value.map (o) :: i64 (m).ar :: i64 (m).ac :: Value.bool (m).off :: ((m).pages.map str ++ (m).worn.map i64)).toArray 61]).sat S w) (hm : m.wf K) :
    Tri Try.prog 14 #[ptr b 0] w S fun u A => ∃ q, u = ptr q 0 ∧ A = [.blk b (Value.map (o) :: i64 (m).ar :: i64 (m).ac :: Value.bool (m).off :: ((m).pages.map str ++ (m).worn.map i64)).toArray 61, .blk q (Value.map (none) :: i64 (m.again).ar :: i64 (m.again).ac :: Value.bool (m.again).off :: ((m.again).pages.map str ++ (m.again).worn.map i64)).toArray 61] := by
  refine Tri.enter (l := [ptr b 0]) Try.func14 rfl Try.ntmps14 rfl [(0, ptr b 0)] (subA rfl) hS ?_
  repeat first
    | (apply WL.q; exact rfl; exact rfl; exact rfl; (first | (apply EvW.assign; exact rfl)))
    | refine WC.seq ?_ | refine WC.region ?_ | refine WL.nil ?_ | refine WE.next ?_
  repeat refine WC.seq ?_
  refine WC.keep (xs := [.blk b (Value.map (o) :: i64 (m).ar :: i64 (m).ac :: Value.bool (m).off :: ((m).pages.map str ++ (m).worn.map i64)).toArray 61]) (by repeat constructor) ?_
  apply WC.par _ (fun c : Ch => [.blk b (Value.map (o) :: i64 (m).ar :: i64 (m).ac :: Value.bool (m).off :: ((m).pages.map str ++ (m).worn.map i64)).toArray 61, .blk (c 9).1 (Value.map (none) :: i64 (m.again).ar :: i64 (m.again).ac :: Value.bool (m.again).off :: ((m.again).pages.map str ++ (m.again).worn.map i64)).toArray 61]) [none, some 9] [none, none] [(9, fun x => ptr x.1 0)] Try.mixed
  · (focus ((repeat (first | exact Restr.nil | (apply Restr.keep; exact rfl; exact rfl) | (apply Restr.drop; exact rfl))); done))
  · intro c; exact (by repeat constructor)
  · exact rfl
  · decide +kernel
  · decide +kernel
  · intro c
    (apply Par.quiet _ [true, false]; exact rfl; decide +kernel; exact rfl; intro R; refine ⟨_, (by repeat constructor), ?_⟩;
         (first | (apply EvW.move; exact rfl)))
    (apply Par.quiet _ [true, false]; exact rfl; decide +kernel; exact rfl; intro R; refine ⟨_, (by repeat constructor), ?_⟩;
         (first | (apply EvW.nilPtr; exact rfl)))
    (apply Par.quiet _ [true, false]; exact rfl; decide +kernel; exact rfl; intro R; refine ⟨_, (by repeat constructor), ?_⟩;
         (first | (apply EvW.fieldAddr0; exact rfl; exact FldC.eq)))
    apply Par.quiet _ [true, false]
    · exact rfl
    · decide +kernel
    · exact rfl
    · intro R
      refine ⟨_, (by repeat constructor), ?_⟩
      (apply EvW.loadAgg; exact rfl; exact AggC.eq; exact SzC.eq; (focus ((repeat constructor); done)); exact sub_pages hm.pl)
    (apply Par.quiet _ [true, false]; exact rfl; decide +kernel; exact rfl; intro R; refine ⟨_, (by repeat constructor), ?_⟩;
         (first | (apply EvW.move; exact rfl)))
    (apply Par.quiet _ [true, false]; exact rfl; decide +kernel; exact rfl; intro R; refine ⟨_, (by repeat constructor), ?_⟩;
         (first | (apply EvW.nilPtr; exact rfl)))
    (apply Par.quiet _ [true, false]; exact rfl; decide +kernel; exact rfl; intro R; refine ⟨_, (by repeat constructor), ?_⟩;
         (first | (apply EvW.fieldAddr0; exact rfl; exact FldC.eq)))
    apply Par.quiet _ [true, false]
    · exact rfl
    · decide +kernel
    · exact rfl
    · intro R
      refine ⟨_, (by repeat constructor), ?_⟩
      (apply EvW.loadAgg; exact rfl; exact AggC.eq; exact SzC.eq; (focus ((repeat constructor); done)); exact sub_worn hm.pl hm.wl)
    apply Par.quiet _ [true, false]
    · exact rfl
    · decide +kernel
    · exact rfl
    · intro R
      refine ⟨_, (by repeat constructor), ?_⟩
      (apply EvW.build; exact PlC.eq; exact ZvC.eq; exact rfl; exact rfl; exact Fills.cons rfl rfl (by rw [List.length_map, hm.pl]) (fill_pages hm.pl) (Fills.cons rfl rfl (by rw [List.length_map, hm.wl]) (fill_worn hm.pl hm.wl) Fills.nil))
    apply Par.new _ [false, false] [false, true] [true, false]
    · exact rfl
    · exact rfl
    · decide +kernel
    · intro R
      refine ⟨_, _, _, (by repeat constructor), (by repeat constructor), (fun x => (by repeat constructor)), ?_⟩
      (apply NewW.box; exact rfl; exact rfl; exact fun _ => rfl)
    (apply Par.quiet _ [true, true]; exact rfl; decide +kernel; exact rfl; intro R; refine ⟨_, (by repeat constructor), ?_⟩;
         (first | (apply EvW.assign; exact rfl)))
    exact Par.nil
  · repeat (first | exact AllN.nil | (apply AllN.cons; (intro c x; (repeat (first | exact IndA.nil | (apply IndA.skip; decide +kernel) | apply IndA.same))))) 
  · repeat (first | exact AllN.nil | (apply AllN.cons; (intro c x; (repeat (first | exact IndT.nil | (apply IndT.skip; decide +kernel) | apply IndT.same))))) 
  · exact fun _ => rfl
  intro c
  refine ⟨_, (by repeat constructor), ?_⟩
  apply WE.writ
  · (focus ((repeat (first | exact Writ.nil | apply Writ.some | apply Writ.none)); done))
  generalize (c 9).1 = b9
  repeat first
    | refine WE.next ?_ | refine WC.ret ?_
  refine WE.ret1 rfl rfl ?_
  exact ⟨b9, rfl, rfl⟩
/-- A cut: at which act, how many bytes. -/
structure Cut where
  at' : Int
  part : Int
instance : Inhabited Cut := ⟨⟨0, 0⟩⟩
def cutC (c : Cut) : List Value := [i64 c.at', i64 c.part]
def armStep (m : List (Int × Value)) (c : Cut) : List (Int × Value) := match mget c.at' m with
  | some (.int _ q) => if c.part < q then mput c.at' (i64 c.part) m else m
  | _ => mput c.at' (i64 c.part) m
def armM (cs : List Cut) : List (Int × Value) := cs.foldl armStep []
def Ints (m : List (Int × Value)) : Prop := ∀ k v, mget k m = some v → ∃ q, v = i64 q
theorem ints_put {m : List (Int × Value)} (h : Ints m) (a q : Int) : Ints (mput a (i64 q) m) := fun k v hk => by
  rw [mget_put] at hk
  by_cases e : k = a
  · rw [if_pos e] at hk; exact ⟨q, (Option.some.inj hk).symm⟩
  · rw [if_neg e] at hk; exact h k v hk
theorem arm_none {m : List (Int × Value)} {c : Cut} (h : mget c.at' m = none) : armStep m c = mput c.at' (i64 c.part) m := by unfold armStep; rw [h]
theorem arm_less {m : List (Int × Value)} {c : Cut} {q : Int} (h : mget c.at' m = some (i64 q)) (hq : c.part < q) : armStep m c = mput c.at' (i64 c.part) m := by unfold armStep; rw [h]; exact if_pos hq
theorem arm_more {m : List (Int × Value)} {c : Cut} {q : Int} (h : mget c.at' m = some (i64 q)) (hq : ¬ c.part < q) : armStep m c = m := by unfold armStep; rw [h]; exact if_neg hq
theorem arm_take (cs : List Cut) (i : Nat) (h : i < cs.length) : armM (cs.take (i + 1)) = armStep (armM (cs.take i)) (cs.getD i default) := by
  unfold armM
  rw [List.take_add_one, getD_some (d := default) h, List.foldl_append]; rfl
theorem arm_spec (b : Nat) (o : Option Nat) (ar ac : Int) (off : Bool) (r : List Value) (T : TypeId) (v : Value) (cs : List Cut) (w : World) (S : BSet) (hS : (sepL [.blk b (Value.map (o) :: i64 (ar) :: i64 (ac) :: Value.bool (off) :: r).toArray T]).sat S w) (hv : Sees w S (.row 2 v cs.length (cs.flatMap cutC))) (hn : cs.length ≤ 17592186044416) :
    Tri Try.prog 17 #[ptr b 0, v] w S fun u A => ∃ mb, u = .tuple #[] ∧ A = [.blk b (Value.map (some mb) :: i64 (0) :: i64 (ac) :: Value.bool (off) :: r).toArray T, .imap mb (armM cs)] := by
  refine Tri.enter (l := [ptr b 0, v]) Try.func17 rfl Try.ntmps17 rfl [(0, ptr b 0), (1, v)] (subA rfl) hS ?_
  repeat first
    | (apply WL.q; exact rfl; exact rfl; exact rfl; (first | (apply EvW.move; exact rfl)))
    | refine WC.seq ?_ | refine WC.region ?_
  try refine WL.wanted rfl rfl rfl ?_
  (apply WL.makeMap; exact rfl; intro mb)
  repeat first
    | (apply WL.q; exact rfl; exact rfl; exact rfl; (first | (apply EvW.move; exact rfl) | (apply EvW.nilPtr; exact rfl) | (apply EvW.fieldAddr0; exact rfl; exact FldC.eq) | (apply EvW.lenRow; exact rfl; exact UndC.eq; assumption)))
    | refine WC.seq ?_ | refine WC.region ?_ | refine WL.nil ?_ | refine WE.next ?_ | refine WC.block ?_ | (apply WL.store; exact rfl; exact rfl; (first | assumption | exact rfl); exact SzC.eq; (first | assumption | exact rfl); (focus ((repeat constructor); done)))
  refine WC.loopK (σ := Nat × List (Int × Value)) [0, 15, 16] (fun s => [(17, i64 s.1)]) (fun s => [.blk b (Value.map (some mb) :: i64 (0) :: i64 (ac) :: Value.bool (off) :: r).toArray T, .imap mb s.2]) (fun s => s.1 ≤ cs.length ∧ s.2 = armM (cs.take s.1) ∧ Ints s.2) (fun s => cs.length - s.1) (0, []) (by (focus ((repeat (first | exact Pick.nil | (apply Pick.cons; exact rfl))); done))) (by (focus ((repeat (first | exact trivial | (refine ⟨rfl, ?_⟩))); done))) (fun _ h => h.keep (by repeat constructor)) ⟨Nat.zero_le _, rfl, fun k v h => absurd h (by simp [mget])⟩ (fun s hs => ?_)
  obtain ⟨i, mp⟩ := s
  simp only [List.cons_append, List.nil_append] at hs ⊢
  obtain ⟨hi, hmp, hI⟩ := hs
  by_cases hlt : (i : Int) < cs.length
  · have hst := arm_take cs i (by omega)
    rw [← hmp] at hst
    repeat first
      | (apply WL.q; exact rfl; exact rfl; exact rfl; (first | (apply EvW.cmpT; exact rfl; exact rfl; exact rfl; omega) | (apply EvW.idxRow; exact rfl; exact rfl; exact UndC.eq; exact SzC.eq; assumption; omega; omega)))
      | refine WC.seq ?_ | refine WC.region ?_ | refine WL.nil ?_ | refine WE.next ?_ | refine WC.block ?_ | refine WC.skip ?_ | refine WC.condT rfl ?_
    (apply WL.q; exact rfl; exact rfl; exact rfl; (apply EvW.ldElem (xs := cs) (z := (default : Cut)) (f := cutC); exact rfl; exact AggC.eq; exact SzC.eq; exact rfl; exact fun _ => rfl; assumption; omega))
    try refine WL.wanted rfl rfl rfl ?_
    (apply WL.alloc; exact rfl; exact ZvC.eq; exact rfl; intro z)
    rw [show ((i : Nat) : Int).toNat = i from rfl]
    generalize cs.getD i default = x at hst
    repeat first
      | refine WC.seq ?_ | refine WL.nil ?_ | refine WE.next ?_ | (apply WL.store; exact rfl; exact rfl; (first | assumption | exact rfl); exact SzC.eq; (first | assumption | exact rfl); (focus ((repeat constructor); done)))
    repeat refine WC.seq ?_
    refine WC.keep (xs := [.blk b (Value.map (some mb) :: i64 (0) :: i64 (ac) :: Value.bool (off) :: r).toArray T, .imap mb mp, .blk z #[i64 x.at', i64 x.part] 52]) (by repeat constructor) ?_
    apply WC.par _ (fun c : Ch => [.blk b (Value.map (some mb) :: i64 (0) :: i64 (ac) :: Value.bool (off) :: r).toArray T, .imap mb mp, .blk z #[i64 x.at', i64 x.part] 52]) [none, none, none] [none, none, none] [] Try.mixed
    · (focus ((repeat (first | exact Restr.nil | (apply Restr.keep; exact rfl; exact rfl) | (apply Restr.drop; exact rfl))); done))
    · intro c; exact (by repeat constructor)
    · exact rfl
    · decide +kernel
    · decide +kernel
    · intro c
      (apply Par.quiet _ [true, true, true]; exact rfl; decide +kernel; exact rfl; intro R; refine ⟨_, (by repeat constructor), ?_⟩;
           (first | (apply EvW.move; exact rfl)))
      (apply Par.quiet _ [true, true, true]; exact rfl; decide +kernel; exact rfl; intro R; refine ⟨_, (by repeat constructor), ?_⟩;
           (first | (apply EvW.nilPtr; exact rfl)))
      (apply Par.quiet _ [true, true, true]; exact rfl; decide +kernel; exact rfl; intro R; refine ⟨_, (by repeat constructor), ?_⟩;
           (first | (apply EvW.fieldAddr0; exact rfl; exact FldC.eq)))
      (apply Par.quiet _ [true, true, true]; exact rfl; decide +kernel; exact rfl; intro R; refine ⟨_, (by repeat constructor), ?_⟩;
           (first | (apply EvW.load; exact rfl; exact ScalC.eq; (focus ((repeat constructor); done)); exact rfl)))
      (apply Par.quiet _ [true, true, true]; exact rfl; decide +kernel; exact rfl; intro R; refine ⟨_, (by repeat constructor), ?_⟩;
           (first | (apply EvW.fieldAddr0; exact rfl; exact FldC.eq)))
      (apply Par.quiet _ [true, true, true]; exact rfl; decide +kernel; exact rfl; intro R; refine ⟨_, (by repeat constructor), ?_⟩;
           (first | (apply EvW.load; exact rfl; exact ScalC.eq; (focus ((repeat constructor); done)); exact rfl)))
      apply Par.quiet _ [true, true, true]
      · exact rfl
      · decide +kernel
      · exact rfl
      · intro R
        refine ⟨_, (by repeat constructor), ?_⟩
        (apply EvW.lookupOk; exact rfl; exact rfl; exact UndC.eq; exact UndC.eq; exact ZvC.eq; (focus ((repeat constructor); done)))
      (apply Par.quiet _ [true, true, true]; exact rfl; decide +kernel; exact rfl; intro R; refine ⟨_, (by repeat constructor), ?_⟩;
           (first | (apply EvW.move; exact rfl)))
      (apply Par.quiet _ [true, true, true]; exact rfl; decide +kernel; exact rfl; intro R; refine ⟨_, (by repeat constructor), ?_⟩;
           (first | (apply EvW.extract; exact rfl; exact rfl)))
      (apply Par.quiet _ [true, true, true]; exact rfl; decide +kernel; exact rfl; intro R; refine ⟨_, (by repeat constructor), ?_⟩;
           (first | (apply EvW.extract; exact rfl; exact rfl)))
      (apply Par.quiet _ [true, true, true]; exact rfl; decide +kernel; exact rfl; intro R; refine ⟨_, (by repeat constructor), ?_⟩;
           (first | (apply EvW.assign; exact rfl)))
      (apply Par.quiet _ [true, true, true]; exact rfl; decide +kernel; exact rfl; intro R; refine ⟨_, (by repeat constructor), ?_⟩;
           (first | (apply EvW.assign; exact rfl)))
      exact Par.nil
    · repeat (first | exact AllN.nil | (apply AllN.cons; (intro c x; (repeat (first | exact IndA.nil | (apply IndA.skip; decide +kernel) | apply IndA.same))))) 
    · repeat (first | exact AllN.nil | (apply AllN.cons; (intro c x; (repeat (first | exact IndT.nil | (apply IndT.skip; decide +kernel) | apply IndT.same))))) 
    · exact fun _ => rfl
    intro c
    refine ⟨_, (by repeat constructor), ?_⟩
    apply WE.writ
    · (focus ((repeat (first | exact Writ.nil | apply Writ.some | apply Writ.none)); done))
    cases hg : mget x.at' mp with
    | none =>
      rw [arm_none hg] at hst
      dsimp only [Option.getD, Option.isSome]
      repeat first
        | (apply WL.q; exact rfl; exact rfl; exact rfl; (first | (apply EvW.move; exact rfl) | (apply EvW.pickT; exact rfl; exact rfl) | (apply EvW.notF; exact rfl)))
        | refine WC.seq ?_ | refine WC.region ?_ | refine WL.nil ?_ | refine WE.next ?_ | refine WC.condT rfl ?_ | refine WL.unwanted rfl rfl rfl rfl ?_
      repeat refine WC.seq ?_
      refine WC.keep (xs := [.blk b (Value.map (some mb) :: i64 (0) :: i64 (ac) :: Value.bool (off) :: r).toArray T, .imap mb mp, .blk z #[i64 x.at', i64 x.part] 52]) (by repeat constructor) ?_
      apply WC.par _ (fun c : Ch => [.blk b (Value.map (some mb) :: i64 (0) :: i64 (ac) :: Value.bool (off) :: r).toArray T, .imap mb mp, .imap mb (mput x.at' (i64 x.part) mp), .blk z #[i64 x.at', i64 x.part] 52]) [none, none, some 8, none] [none, some 8, none, none] [] Try.mixed
      · (focus ((repeat (first | exact Restr.nil | (apply Restr.keep; exact rfl; exact rfl) | (apply Restr.drop; exact rfl))); done))
      · intro c; exact (by repeat constructor)
      · exact rfl
      · decide +kernel
      · decide +kernel
      · intro c
        (apply Par.quiet _ [true, true, false, true]; exact rfl; decide +kernel; exact rfl; intro R; refine ⟨_, (by repeat constructor), ?_⟩;
             (first | (apply EvW.move; exact rfl)))
        (apply Par.quiet _ [true, true, false, true]; exact rfl; decide +kernel; exact rfl; intro R; refine ⟨_, (by repeat constructor), ?_⟩;
             (first | (apply EvW.nilPtr; exact rfl)))
        (apply Par.quiet _ [true, true, false, true]; exact rfl; decide +kernel; exact rfl; intro R; refine ⟨_, (by repeat constructor), ?_⟩;
             (first | (apply EvW.fieldAddr0; exact rfl; exact FldC.eq)))
        (apply Par.quiet _ [true, true, false, true]; exact rfl; decide +kernel; exact rfl; intro R; refine ⟨_, (by repeat constructor), ?_⟩;
             (first | (apply EvW.load; exact rfl; exact ScalC.eq; (focus ((repeat constructor); done)); exact rfl)))
        (apply Par.quiet _ [true, true, false, true]; exact rfl; decide +kernel; exact rfl; intro R; refine ⟨_, (by repeat constructor), ?_⟩;
             (first | (apply EvW.fieldAddr0; exact rfl; exact FldC.eq)))
        (apply Par.quiet _ [true, true, false, true]; exact rfl; decide +kernel; exact rfl; intro R; refine ⟨_, (by repeat constructor), ?_⟩;
             (first | (apply EvW.load; exact rfl; exact ScalC.eq; (focus ((repeat constructor); done)); exact rfl)))
        (apply Par.quiet _ [true, true, false, true]; exact rfl; decide +kernel; exact rfl; intro R; refine ⟨_, (by repeat constructor), ?_⟩;
             (first | (apply EvW.fieldAddr0; exact rfl; exact FldC.eq)))
        (apply Par.quiet _ [true, true, false, true]; exact rfl; decide +kernel; exact rfl; intro R; refine ⟨_, (by repeat constructor), ?_⟩;
             (first | (apply EvW.load; exact rfl; exact ScalC.eq; (focus ((repeat constructor); done)); exact rfl)))
        apply Par.eff _ [false, true, false, false] [false, false, true, false] [true, false, false, true]
        · exact rfl
        · exact rfl
        · decide +kernel
        · intro R
          refine ⟨_, _, _, (by repeat constructor), (by repeat constructor), (by repeat constructor), ?_⟩
          (apply EffW.mapUpdate; exact rfl; exact rfl; exact rfl; exact UndC.eq; exact UndC.eq; (focus ((repeat (first | apply UpdM.head | apply UpdM.tail)); done)))
        exact Par.nil
      · repeat (first | exact AllN.nil | (apply AllN.cons; (intro c x; (repeat (first | exact IndA.nil | (apply IndA.skip; decide +kernel) | apply IndA.same))))) 
      · repeat (first | exact AllN.nil | (apply AllN.cons; (intro c x; (repeat (first | exact IndT.nil | (apply IndT.skip; decide +kernel) | apply IndT.same))))) 
      · exact fun _ => rfl
      intro c
      refine ⟨_, (by repeat constructor), ?_⟩
      apply WE.writ
      · (focus ((repeat (first | exact Writ.nil | apply Writ.some | apply Writ.none)); done))
      repeat first
        | (apply WL.q; exact rfl; exact rfl; exact rfl; (first | (apply EvW.move; exact rfl) | (apply EvW.arN; exact rfl; exact rfl; exact rfl; refine i64_in ?_ ?_ <;> omega)))
        | refine WC.region ?_ | refine WL.nil ?_ | refine WE.next ?_ | refine WE.out ?_
      exact WE.again (s := (i, mp)) ((i + 1, mput x.at' (i64 x.part) mp)) ⟨by simp only []; omega, hst.symm, ints_put hI _ _⟩ (by (focus ((repeat (first | exact trivial | (refine ⟨rfl, ?_⟩))); done))) (fun _ h => (by (try simp only []); exact h.keep (by repeat constructor))) (by (try simp only []); omega)
    | some g =>
      obtain ⟨q, rfl⟩ := hI _ _ hg
      dsimp only [Option.getD, Option.isSome]
      by_cases hq : x.part < q
      · rw [arm_less hg hq] at hst
        repeat first
          | (apply WL.q; exact rfl; exact rfl; exact rfl; (first | (apply EvW.move; exact rfl) | (apply EvW.fieldAddr0; exact rfl; exact FldC.eq) | (apply EvW.load; exact rfl; exact ScalC.eq; (focus ((repeat constructor); done)); exact rfl) | (apply EvW.cmpT; exact rfl; exact rfl; exact rfl; omega) | (apply EvW.pickF; exact rfl; exact rfl) | (apply EvW.notT; exact rfl)))
          | refine WC.seq ?_ | refine WC.region ?_ | refine WL.nil ?_ | refine WE.next ?_ | refine WC.condT rfl ?_ | refine WL.wanted rfl rfl rfl ?_
        repeat refine WC.seq ?_
        refine WC.keep (xs := [.blk b (Value.map (some mb) :: i64 (0) :: i64 (ac) :: Value.bool (off) :: r).toArray T, .imap mb mp, .blk z #[i64 x.at', i64 x.part] 52]) (by repeat constructor) ?_
        apply WC.par _ (fun c : Ch => [.blk b (Value.map (some mb) :: i64 (0) :: i64 (ac) :: Value.bool (off) :: r).toArray T, .imap mb mp, .imap mb (mput x.at' (i64 x.part) mp), .blk z #[i64 x.at', i64 x.part] 52]) [none, none, some 8, none] [none, some 8, none, none] [] Try.mixed
        · (focus ((repeat (first | exact Restr.nil | (apply Restr.keep; exact rfl; exact rfl) | (apply Restr.drop; exact rfl))); done))
        · intro c; exact (by repeat constructor)
        · exact rfl
        · decide +kernel
        · decide +kernel
        · intro c
          (apply Par.quiet _ [true, true, false, true]; exact rfl; decide +kernel; exact rfl; intro R; refine ⟨_, (by repeat constructor), ?_⟩;
               (first | (apply EvW.move; exact rfl)))
          (apply Par.quiet _ [true, true, false, true]; exact rfl; decide +kernel; exact rfl; intro R; refine ⟨_, (by repeat constructor), ?_⟩;
               (first | (apply EvW.nilPtr; exact rfl)))
          (apply Par.quiet _ [true, true, false, true]; exact rfl; decide +kernel; exact rfl; intro R; refine ⟨_, (by repeat constructor), ?_⟩;
               (first | (apply EvW.fieldAddr0; exact rfl; exact FldC.eq)))
          (apply Par.quiet _ [true, true, false, true]; exact rfl; decide +kernel; exact rfl; intro R; refine ⟨_, (by repeat constructor), ?_⟩;
               (first | (apply EvW.load; exact rfl; exact ScalC.eq; (focus ((repeat constructor); done)); exact rfl)))
          (apply Par.quiet _ [true, true, false, true]; exact rfl; decide +kernel; exact rfl; intro R; refine ⟨_, (by repeat constructor), ?_⟩;
               (first | (apply EvW.fieldAddr0; exact rfl; exact FldC.eq)))
          (apply Par.quiet _ [true, true, false, true]; exact rfl; decide +kernel; exact rfl; intro R; refine ⟨_, (by repeat constructor), ?_⟩;
               (first | (apply EvW.load; exact rfl; exact ScalC.eq; (focus ((repeat constructor); done)); exact rfl)))
          (apply Par.quiet _ [true, true, false, true]; exact rfl; decide +kernel; exact rfl; intro R; refine ⟨_, (by repeat constructor), ?_⟩;
               (first | (apply EvW.fieldAddr0; exact rfl; exact FldC.eq)))
          (apply Par.quiet _ [true, true, false, true]; exact rfl; decide +kernel; exact rfl; intro R; refine ⟨_, (by repeat constructor), ?_⟩;
               (first | (apply EvW.load; exact rfl; exact ScalC.eq; (focus ((repeat constructor); done)); exact rfl)))
          apply Par.eff _ [false, true, false, false] [false, false, true, false] [true, false, false, true]
          · exact rfl
          · exact rfl
          · decide +kernel
          · intro R
            refine ⟨_, _, _, (by repeat constructor), (by repeat constructor), (by repeat constructor), ?_⟩
            (apply EffW.mapUpdate; exact rfl; exact rfl; exact rfl; exact UndC.eq; exact UndC.eq; (focus ((repeat (first | apply UpdM.head | apply UpdM.tail)); done)))
          exact Par.nil
        · repeat (first | exact AllN.nil | (apply AllN.cons; (intro c x; (repeat (first | exact IndA.nil | (apply IndA.skip; decide +kernel) | apply IndA.same))))) 
        · repeat (first | exact AllN.nil | (apply AllN.cons; (intro c x; (repeat (first | exact IndT.nil | (apply IndT.skip; decide +kernel) | apply IndT.same))))) 
        · exact fun _ => rfl
        intro c
        refine ⟨_, (by repeat constructor), ?_⟩
        apply WE.writ
        · (focus ((repeat (first | exact Writ.nil | apply Writ.some | apply Writ.none)); done))
        repeat first
          | (apply WL.q; exact rfl; exact rfl; exact rfl; (first | (apply EvW.move; exact rfl) | (apply EvW.arN; exact rfl; exact rfl; exact rfl; refine i64_in ?_ ?_ <;> omega)))
          | refine WC.region ?_ | refine WL.nil ?_ | refine WE.next ?_ | refine WE.out ?_
        exact WE.again (s := (i, mp)) ((i + 1, mput x.at' (i64 x.part) mp)) ⟨by simp only []; omega, hst.symm, ints_put hI _ _⟩ (by (focus ((repeat (first | exact trivial | (refine ⟨rfl, ?_⟩))); done))) (fun _ h => (by (try simp only []); exact h.keep (by repeat constructor))) (by (try simp only []); omega)
      · rw [arm_more hg hq] at hst
        repeat first
          | (apply WL.q; exact rfl; exact rfl; exact rfl; (first | (apply EvW.move; exact rfl) | (apply EvW.fieldAddr0; exact rfl; exact FldC.eq) | (apply EvW.load; exact rfl; exact ScalC.eq; (focus ((repeat constructor); done)); exact rfl) | (apply EvW.cmpF; exact rfl; exact rfl; exact rfl; omega) | (apply EvW.arN; exact rfl; exact rfl; exact rfl; refine i64_in ?_ ?_ <;> omega) | (apply EvW.pickF; exact rfl; exact rfl) | (apply EvW.notT; exact rfl)))
          | refine WC.seq ?_ | refine WC.region ?_ | refine WL.nil ?_ | refine WE.next ?_ | refine WC.skip ?_ | refine WE.out ?_ | refine WC.condF rfl ?_ | refine WL.wanted rfl rfl rfl ?_
        exact WE.again (s := (i, mp)) ((i + 1, mp)) ⟨by simp only []; omega, hst.symm, hI⟩ (by (focus ((repeat (first | exact trivial | (refine ⟨rfl, ?_⟩))); done))) (fun _ h => (by (try simp only []); exact h.keep (by repeat constructor))) (by (try simp only []); omega)
  · obtain rfl : i = cs.length := by omega
    rw [List.take_length] at hmp
    subst hmp
    repeat first
      | (apply WL.q; exact rfl; exact rfl; exact rfl; (first | (apply EvW.cmpF; exact rfl; exact rfl; exact rfl; omega)))
      | refine WC.seq ?_ | refine WC.region ?_ | refine WL.nil ?_ | refine WE.next ?_ | refine WC.exit ?_ | refine WE.pass ?_ | refine WE.hit ?_ | refine WC.condF rfl ?_
    refine WE.keep (xs := [.blk b (Value.map (some mb) :: i64 (0) :: i64 (ac) :: Value.bool (off) :: r).toArray T, .imap mb (armM cs)]) (by repeat constructor) ?_
    first | refine WE.end0 rfl ?_ | refine WE.ret0 rfl ?_
    exact ⟨mb, rfl, rfl⟩
end Go.Proofs.Ytknclcjmfgdphaa
namespace Go.Proofs.Ytknclcjmfgdphaa
open Go.RowKit Go.BK
abbrev Txt := List UInt8
/-- What stands at a place of a page: kind, number, text, the place behind it. -/
def readF (l : Txt) (a : Nat) : Option (Int × Int × Txt × Nat) :=
  if (nextF l a).2.2 ≠ 0 then none
  else if (l.length : Int) ≤ (nextF l a).2.1 then none
  else if l.getD (nextF l a).2.1.toNat 0 ≠ 0 then none
  else if (nextF l a).1.length < 5 then none
  else some (numOf ((nextF l a).1.take 1), numOf (((nextF l a).1.drop 1).take 4), (nextF l a).1.drop 5, (nextF l a).2.1.toNat + 1)
/-- A record's bytes, with the mark. -/
def bodyJ (k n : Int) (t : Txt) : Txt := be 1 k ++ be 4 n ++ t
def jf (k n : Int) (t : Txt) : Txt := frame (bodyJ k n t) ++ [0]
theorem bodyJ_len (k n : Int) (t : Txt) : (bodyJ k n t).length = t.length + 5 := by simp [bodyJ, be_length]; omega
theorem jf_len (k n : Int) (t : Txt) : (jf k n t).length = t.length + 12 := by simp [jf, frame_length, bodyJ_len]
theorem getD_mid {α : Type} (p : List α) (c : α) (r : List α) (d : α) : (p ++ c :: r).getD p.length d = c := by
  rw [List.getD_eq_getElem?_getD, List.getElem?_append_right (Nat.le_refl _), Nat.sub_self]; rfl
theorem readF_frame (p : Txt) (k n : Int) (t r : Txt) (hk0 : 0 ≤ k) (hk : k < 256) (hn0 : 0 ≤ n) (hn : n < 4294967296) (ht : t.length ≤ 1000) : readF (p ++ (jf k n t ++ r)) p.length = some (k, n, t, p.length + (t.length + 12)) := by
  have hb := bodyJ_len k n t
  have hl : p ++ (jf k n t ++ r) = p ++ (frame (bodyJ k n t) ++ (0 :: r)) := by unfold jf; rw [List.append_assoc]; rfl
  have hN := nextF_frame p (bodyJ k n t) (0 :: r) (by omega)
  rw [hl]
  unfold readF
  rw [hN]
  have hfl := frame_length (bodyJ k n t)
  rw [if_neg (by simp), if_neg (by simp only [List.length_append, List.length_cons]; omega)]
  have e1 : ((p.length : Int) + ((bodyJ k n t).length : Int) + 6).toNat = (p ++ frame (bodyJ k n t)).length := by rw [List.length_append]; omega
  simp only [e1]
  rw [← List.append_assoc, getD_mid, if_neg (by simp), if_neg (by omega)]
  have h1 : (bodyJ k n t).take 1 = be 1 k := by unfold bodyJ; rw [List.append_assoc, List.take_left' (be_length _ _)]
  have h2 : ((bodyJ k n t).drop 1).take 4 = be 4 n := by unfold bodyJ; rw [List.append_assoc, List.drop_left' (be_length _ _), List.take_left' (be_length _ _)]
  have h3 : (bodyJ k n t).drop 5 = t := by unfold bodyJ; rw [List.drop_left' (by rw [List.length_append, be_length, be_length])]
  rw [h1, h2, h3, numOf_be1 k hk0 hk, numOf_be4 n hn0 hn, List.length_append, hfl, hb, show p.length + (t.length + 5 + 6) + 1 = p.length + (t.length + 12) by omega]
theorem nextF_end (l : Txt) (a : Nat) (h : (nextF l a).2.2 = 0) : (nextF l a).2.1 = a + (numOf ((l.drop a).take 2) + 6) := by
  unfold nextF at h ⊢
  split at h
  · simp at h
  · rename_i h1
    rw [if_neg h1]
    split at h
    · rename_i h2; exact absurd h h2
    · rename_i h2
      rw [if_neg h2]
      have ha : ((a : Nat) : Int).toNat = a := rfl
      rw [ha] at h h2 ⊢
      rcases cutF_cases (l.drop a) with hc | hc | ⟨k, hc, h6, hk, _, hn⟩
      · rw [hc] at h2; simp at h2
      · rw [hc] at h2; simp at h2
      · rw [hc] at h ⊢
        simp only [Int.toNat_natCast] at h ⊢
        unfold bodyF at h ⊢
        split at h
        · simp at h
        · rename_i h3
          rw [if_neg h3]
          simp only [List.length_take]
          omega
theorem getD_bare (q : Txt) (m e : Nat) (h : q.length ≤ e) (h2 : e < (q ++ bareB m).length) : (q ++ bareB m).getD e 0 = 255 := by
  rw [List.length_append, bareB_length] at h2
  rw [List.getD_eq_getElem?_getD, List.getElem?_append_right h]
  unfold bareB
  rw [List.getElem?_replicate, if_pos (by omega)]; rfl
theorem readF_far (p x : Txt) (m : Nat) (h : (x.length : Int) ≤ numOf ((x ++ bareB m).take 2) + 6) : readF (p ++ (x ++ bareB m)) p.length = none := by
  unfold readF
  by_cases h0 : (nextF (p ++ (x ++ bareB m)) p.length).2.2 ≠ 0
  · rw [if_pos h0]
  · rw [if_neg h0]
    have h1 := nextF_end _ _ (Classical.not_not.1 h0)
    rw [List.drop_left' rfl] at h1
    generalize (nextF (p ++ (x ++ bareB m)) p.length).2.1 = e at h1
    by_cases h2 : ((p ++ (x ++ bareB m)).length : Int) ≤ e
    · rw [if_pos h2]
    · rw [if_neg h2]
      have hN := numOf_bd ((x ++ bareB m).take 2)
      have : (p ++ (x ++ bareB m)).getD e.toNat 0 = 255 := by
        rw [← List.append_assoc]
        refine getD_bare _ _ _ (by rw [List.length_append]; omega) ?_
        rw [← List.append_assoc] at h2
        omega
      rw [if_pos (by rw [this]; decide)]
theorem numOf_255 (c : UInt8) : 65280 ≤ numOf [255, c] := by
  have := c.toNat_lt
  simp only [numOf, List.foldl_cons, List.foldl_nil]
  have e : ((255 : UInt8).toNat : Int) = 255 := rfl
  rw [e]; omega
theorem readF_bare (p : Txt) (m : Nat) : readF (p ++ bareB m) p.length = none := by
  have h := readF_far p [] m (by have := numOf_bd (([] ++ bareB m).take 2); simp only [List.length_nil]; omega)
  exact h
theorem readF_part (p : Txt) (k n : Int) (t : Txt) (c m : Nat) (hc : c < t.length + 12) (ht : t.length ≤ 1000) : readF (p ++ ((jf k n t).take c ++ bareB m)) p.length = none := by
  have hb := bodyJ_len k n t
  have hj := jf_len k n t
  have hx : ((jf k n t).take c).length = c := by rw [List.length_take]; omega
  refine readF_far p _ m ?_
  rw [hx]
  have hN := numOf_bd (((jf k n t).take c ++ bareB m).take 2)
  by_cases h2 : 2 ≤ c
  · have : ((jf k n t).take c ++ bareB m).take 2 = be 2 ((bodyJ k n t).length : Int) := by
      rw [List.take_append_of_le_length (by omega), List.take_take, Nat.min_eq_left h2]
      unfold jf
      exact frame_take2 _ _
    rw [this, numOf_len _ (by omega)]
    omega
  · omega
theorem readF_wiped (k : Nat) (r : Txt) (hk : 1 ≤ k) (h6 : 6 ≤ (bareB k ++ r).length) : readF (bareB k ++ r) 0 = none := by
  obtain ⟨c, hc⟩ : ∃ c, (bareB k ++ r).take 2 = [255, c] := by
    match k, hk with
    | 1, _ =>
      rw [List.length_append, bareB_length] at h6
      cases r with
      | nil => simp at h6
      | cons c r => exact ⟨c, rfl⟩
    | k + 2, _ => exact ⟨255, rfl⟩
  have h9 := numOf_255 c
  have hcut : cutF (bareB k ++ r) = (0, 2) := by
    unfold cutF
    rw [if_neg (by omega), hc, if_pos (by omega)]
  unfold readF
  have : (nextF (bareB k ++ r) ((0 : Nat) : Int)).2.2 ≠ 0 := by
    unfold nextF
    rw [if_neg (by omega), show ((0 : Nat) : Int).toNat = 0 from rfl, List.drop_zero, hcut, if_pos (by simp)]
    simp
  rw [if_pos this]
end Go.Proofs.Ytknclcjmfgdphaa
namespace Go.Proofs.Ytknclcjmfgdphaa
open Go.RowKit Go.BK
/-- A record's kind and text; a page of a journal: which, its first number, how many. -/
structure Rec where
  kind : Int
  text : Txt
instance : Inhabited Rec := ⟨⟨0, []⟩⟩
structure Lf where
  page : Nat
  first : Nat
  n : Nat
instance : Inhabited Lf := ⟨⟨0, 0, 0⟩⟩
abbrev St8 := Txt × Bool
def RecOk (r : Rec) : Prop := (r.kind = 1 ∨ r.kind = 2) ∧ r.text.length ≤ 1000
def headJ (f : Nat) (st : St8) : Txt := jf (if st.2 = true then 0 else 3) f st.1
def recsJ : Nat → List Rec → Txt
  | _, [] => []
  | f, r :: rs => jf r.kind f r.text ++ recsJ (f + 1) rs
def cont (f : Nat) (st : St8) (rs : List Rec) : Txt := headJ f st ++ recsJ f rs
theorem recsJ_append : ∀ (a b : List Rec) (f : Nat), recsJ f (a ++ b) = recsJ f a ++ recsJ (f + a.length) b
  | [], b, f => rfl
  | r :: a, b, f => by
    show jf r.kind f r.text ++ recsJ (f + 1) (a ++ b) = (jf r.kind f r.text ++ recsJ (f + 1) a) ++ _
    rw [recsJ_append a b (f + 1), List.append_assoc, List.length_cons, show f + 1 + a.length = f + (a.length + 1) by omega]
theorem headJ_len (f : Nat) (st : St8) : (headJ f st).length = st.1.length + 12 := jf_len _ _ _
theorem cont_snoc (f : Nat) (st : St8) (rs : List Rec) (r : Rec) : cont f st (rs ++ [r]) = cont f st rs ++ jf r.kind ((f + rs.length : Nat) : Int) r.text := by
  unfold cont
  rw [recsJ_append, List.append_assoc]
  show _ ++ (_ ++ (_ ++ [])) = _
  rw [List.append_nil]
theorem cont_nil (f : Nat) (st : St8) : cont f st [] = headJ f st := List.append_nil _
/-- A page holds these records behind its head, and nothing else that is read. -/
structure LeafOn (P : Txt) (f : Nat) (st : St8) (rs : List Rec) : Prop where
  tail : ∃ t, P = cont f st rs ++ t
  ends : readF P (cont f st rs).length = none
  len : P.length = 4096
  okr : ∀ r ∈ rs, RecOk r
  oks : st.1.length ≤ 1000
  num : f + rs.length < 4294967296
theorem leaf_head {P : Txt} {f : Nat} {st : St8} {rs : List Rec} (h : LeafOn P f st rs) : readF P 0 = some ((if st.2 = true then 0 else 3), (f : Int), st.1, (headJ f st).length) := by
  obtain ⟨t, ht⟩ := h.tail
  have h2 := readF_frame [] (if st.2 = true then 0 else 3) f st.1 (recsJ f rs ++ t) (by split <;> decide) (by split <;> decide) (by omega) (by have := h.num; omega) h.oks
  rw [List.nil_append, List.length_nil, Nat.zero_add] at h2
  rw [ht, headJ_len]
  unfold cont headJ
  rw [List.append_assoc]
  exact h2
theorem rec_at {rs : List Rec} {i : Nat} (h : i < rs.length) : rs.getD i default ∈ rs := by
  rw [List.getD_eq_getElem?_getD, List.getElem?_eq_getElem h]; exact List.getElem_mem h
theorem rec_take {rs : List Rec} {i : Nat} (h : i < rs.length) : rs.take (i + 1) = rs.take i ++ [rs.getD i default] := by
  rw [List.take_add_one, List.getD_eq_getElem?_getD, List.getElem?_eq_getElem h]; rfl
theorem leaf_at {P : Txt} {f : Nat} {st : St8} {rs : List Rec} (h : LeafOn P f st rs) {i : Nat} (hi : i < rs.length) : readF P (cont f st (rs.take i)).length = some ((rs.getD i default).kind, ((f + i : Nat) : Int), (rs.getD i default).text, (cont f st (rs.take (i + 1))).length) := by
  obtain ⟨t, ht⟩ := h.tail
  have hr := h.okr _ (rec_at hi)
  have hn := h.num
  have hl : (rs.take i).length = i := by rw [List.length_take]; omega
  have e1 : cont f st rs = cont f st (rs.take (i + 1)) ++ recsJ (f + (i + 1)) (rs.drop (i + 1)) := by
    have hl2 : (rs.take (i + 1)).length = i + 1 := by rw [List.length_take]; omega
    unfold cont
    rw [List.append_assoc]
    conv => lhs; rw [← List.take_append_drop (i + 1) rs]
    rw [recsJ_append, hl2]
  have e2 : cont f st (rs.take (i + 1)) = cont f st (rs.take i) ++ jf (rs.getD i default).kind ((f + i : Nat) : Int) (rs.getD i default).text := by
    rw [rec_take hi, cont_snoc, hl]
  have h2 := readF_frame (cont f st (rs.take i)) (rs.getD i default).kind ((f + i : Nat) : Int) (rs.getD i default).text (recsJ (f + (i + 1)) (rs.drop (i + 1)) ++ t) (by rcases hr.1 with e | e <;> omega) (by rcases hr.1 with e | e <;> omega) (by omega) (by omega) hr.2
  rw [ht, e1, e2, List.length_append, jf_len, List.append_assoc, List.append_assoc]
  exact h2
theorem LeafOn.le {P : Txt} {f : Nat} {st : St8} {rs : List Rec} (h : LeafOn P f st rs) : (cont f st rs).length ≤ 4096 := by
  obtain ⟨t, ht⟩ := h.tail
  have := h.len
  rw [ht, List.length_append] at this; omega
theorem leaf_bare {f : Nat} {st : St8} {rs : List Rec} (hl : (cont f st rs).length ≤ 4096) (hr : ∀ r ∈ rs, RecOk r) (hs : st.1.length ≤ 1000) (hn : f + rs.length < 4294967296) : LeafOn (cont f st rs ++ bareB (4096 - (cont f st rs).length)) f st rs :=
  ⟨⟨_, rfl⟩, readF_bare _ _, by rw [List.length_append, bareB_length]; omega, hr, hs, hn⟩
theorem leaf_part {f : Nat} {st : St8} {rs : List Rec} {r : Rec} {c m : Nat} {k : Int} (hc : c < r.text.length + 12) (hx : r.text.length ≤ 1000) (hl : (cont f st rs ++ ((jf r.kind k r.text).take c ++ bareB m)).length = 4096) (hr : ∀ r ∈ rs, RecOk r) (hs : st.1.length ≤ 1000) (hn : f + rs.length < 4294967296) : LeafOn (cont f st rs ++ ((jf r.kind k r.text).take c ++ bareB m)) f st rs :=
  ⟨⟨_, rfl⟩, readF_part _ _ _ _ _ _ hc hx, hl, hr, hs, hn⟩
/-- The last safety state. -/
def noteF (st : St8) (r : Rec) : St8 := if r.kind = 1 then (r.text, true) else st
def safeOf (l : List Rec) : St8 := l.foldl noteF ([], false)
theorem safeOf_append (a b : List Rec) : safeOf (a ++ b) = b.foldl noteF (safeOf a) := List.foldl_append
theorem safeOf_ok {l : List Rec} (h : ∀ r ∈ l, RecOk r) : (safeOf l).1.length ≤ 1000 := by
  have key : ∀ (l : List Rec) (st : St8), (∀ r ∈ l, RecOk r) → st.1.length ≤ 1000 → (l.foldl noteF st).1.length ≤ 1000 := by
    intro l
    induction l with
    | nil => intro st _ h; exact h
    | cons r l ih =>
      intro st h hs
      rw [List.foldl_cons]
      refine ih _ (fun x hx => h x (by simp [hx])) ?_
      unfold noteF
      split
      · exact (h r (by simp)).2
      · exact hs
  exact key l _ h (by decide)
def seg (all : List Rec) (f n : Nat) : List Rec := (all.drop (f - 1)).take n
structure LeafAt (P : Txt) (all : List Rec) (f n : Nat) : Prop where
  f1 : 1 ≤ f
  le : f - 1 + n ≤ all.length
  on : LeafOn P f (safeOf (all.take (f - 1))) (seg all f n)
theorem seg_len {all : List Rec} {f n : Nat} (h : f - 1 + n ≤ all.length) : (seg all f n).length = n := by
  unfold seg; rw [List.length_take, List.length_drop]; omega
theorem seg_more {all : List Rec} {f n : Nat} (r : Rec) (h : f - 1 + n ≤ all.length) : seg (all ++ [r]) f n = seg all f n := by
  unfold seg
  rw [List.drop_append_of_le_length (by omega), List.take_append_of_le_length (by rw [List.length_drop]; omega)]
theorem take_more {all : List Rec} {k : Nat} (r : Rec) (h : k ≤ all.length) : (all ++ [r]).take k = all.take k := List.take_append_of_le_length h
theorem LeafAt.more {P : Txt} {all : List Rec} {f n : Nat} (h : LeafAt P all f n) (r : Rec) : LeafAt P (all ++ [r]) f n :=
  ⟨h.f1, by have := h.le; rw [List.length_append]; omega, by rw [seg_more r h.le, take_more r (by have := h.le; omega)]; exact h.on⟩
def Chain : Nat → List Lf → Nat → Prop
  | b, [], e => b = e
  | b, l :: r, e => l.first = b ∧ Chain (b + l.n) r e
theorem Chain.le : ∀ {L : List Lf} {b e : Nat}, Chain b L e → b ≤ e ∧ ∀ l ∈ L, b ≤ l.first ∧ l.first + l.n ≤ e
  | [], b, e, h => ⟨Nat.le_of_eq h, fun l hl => by cases hl⟩
  | x :: r, b, e, h => by
    obtain ⟨h1, h2⟩ := Chain.le h.2
    have h0 := h.1
    refine ⟨by omega, fun l hl => ?_⟩
    rcases List.mem_cons.1 hl with rfl | hl
    · exact ⟨by omega, by omega⟩
    · have := h2 l hl; exact ⟨by omega, by omega⟩
theorem Chain.snoc : ∀ {L : List Lf} {b e : Nat} (p n : Nat), Chain b L e → Chain b (L ++ [⟨p, e, n⟩]) (e + n)
  | [], b, e, p, n, h => ⟨h.symm, by show b + n = e + n; rw [show b = e from h]⟩
  | x :: r, b, e, p, n, h => ⟨h.1, Chain.snoc p n h.2⟩
theorem Chain.last : ∀ {L : List Lf} {b e : Nat} {l : Lf}, Chain b (L ++ [l]) e → Chain b L l.first ∧ l.first + l.n = e
  | [], b, e, l, h => ⟨h.1.symm, by have h1 := h.1; have h2 : b + l.n = e := h.2; omega⟩
  | x :: r, b, e, l, h => by
    obtain ⟨h1, h2⟩ := Chain.last (L := r) h.2
    exact ⟨⟨h.1, h1⟩, h2⟩
/-- Pages that hold no record leave the chain as it is. -/
theorem Chain.drop0 : ∀ {L : List Lf} {b e : Nat} (q : Lf → Bool), Chain b L e → (∀ l ∈ L, q l = false → l.n = 0) → Chain b (L.filter q) e
  | [], b, e, q, h, _ => h
  | x :: r, b, e, q, h, hq => by
    cases hx : q x with
    | true => rw [List.filter_cons_of_pos hx]; exact ⟨h.1, Chain.drop0 q h.2 fun l hl => hq l (by simp [hl])⟩
    | false =>
      rw [List.filter_cons_of_neg (by rw [hx]; decide)]
      have h0 := hq x (by simp) hx
      have h2 := h.2
      rw [h0, Nat.add_zero] at h2
      exact Chain.drop0 q h2 fun l hl => hq l (by simp [hl])
theorem Chain.many : ∀ {L : List Lf} {b e : Nat}, Chain b L e → (∀ l ∈ L, 1 ≤ l.n) → b + L.length ≤ e
  | [], b, e, h, _ => Nat.le_of_eq h
  | x :: r, b, e, h, hn => by
    have h1 := Chain.many h.2 fun l hl => hn l (by simp [hl])
    have := hn x (by simp)
    rw [List.length_cons]; omega
/-- What a memory holds of a journal: the pages pg, in the order of their numbers. -/
structure MInv (pg : Nat → Txt) (all : List Rec) (L : List Lf) : Prop where
  nodup : (L.map (·.page)).Nodup
  lt : ∀ l ∈ L, l.page < 24
  chain : ∃ b, Chain b L (all.length + 1) ∧ 1 ≤ b ∧ (b = 1 ∨ b + 16 ≤ all.length + 1)
  leaf : ∀ l ∈ L, LeafAt (pg l.page) all l.first l.n
  rest : ∀ p, p < 24 → p ∉ L.map (·.page) → readF (pg p) 0 = none
  len : ∀ p, p < 24 → (pg p).length = 4096
  ok : ∀ r ∈ all, RecOk r
  few : all.length + 1 < 4294967296
def updP (pg : Nat → Txt) (p : Nat) (x : Txt) : Nat → Txt := fun q => if q = p then x else pg q
theorem updP_at (pg : Nat → Txt) (p : Nat) (x : Txt) : updP pg p x p = x := if_pos rfl
theorem updP_ne (pg : Nat → Txt) (p : Nat) (x : Txt) {q : Nat} (h : q ≠ p) : updP pg p x q = pg q := if_neg h
/-- A page that may be laid bare. -/
def Free (L : List Lf) (p : Nat) : Prop := ∀ l ∈ L, l.page = p → l.n = 0 ∨ ∃ r, L = l :: r ∧ 16 ≤ r.length ∧ ∀ x ∈ r, 1 ≤ x.n
def without (L : List Lf) (p : Nat) : List Lf := L.filter fun l => !decide (l.page = p)
theorem mem_without {L : List Lf} {p : Nat} {l : Lf} : l ∈ without L p ↔ l ∈ L ∧ l.page ≠ p := by
  unfold without
  rw [List.mem_filter]
  simp
theorem without_self {L : List Lf} {p : Nat} (h : p ∉ L.map (·.page)) : without L p = L := by
  unfold without
  rw [List.filter_eq_self]
  intro l hl
  have : l.page ≠ p := fun e => h (e ▸ List.mem_map.2 ⟨l, hl, rfl⟩)
  simp [this]
theorem free_chain {L : List Lf} {p b e : Nat} (hd : (L.map (·.page)).Nodup) (hc : Chain b L e) (hf : Free L p) : ∃ b', Chain b' (without L p) e ∧ b ≤ b' ∧ (b' = b ∨ b' + 16 ≤ e) := by
  by_cases hz : ∀ l ∈ L, l.page = p → l.n = 0
  · exact ⟨b, hc.drop0 _ (fun l hl hq => hz l hl (by simpa using hq)), Nat.le_refl _, .inl rfl⟩
  · obtain ⟨l, hl, hp, hn⟩ : ∃ l, l ∈ L ∧ l.page = p ∧ ¬ l.n = 0 := by
      refine Classical.byContradiction fun h => hz fun l hl hp => Classical.byContradiction fun hn => h ⟨l, hl, hp, hn⟩
    rcases hf l hl hp with h | ⟨r, hr, h16, hr1⟩
    · exact absurd h hn
    · have hd2 : p ∉ r.map (·.page) := by
        rw [hr, List.map_cons, List.nodup_cons] at hd
        rw [← hp]; exact hd.1
      have hw : without L p = r := by
        rw [hr]
        unfold without
        rw [List.filter_cons_of_neg (by simp [hp])]
        exact without_self hd2
      rw [hr] at hc
      have h1 := hc.2.many hr1
      rw [hw]
      exact ⟨b + l.n, hc.2, by omega, .inr (by omega)⟩
theorem MInv.same {pg pg' : Nat → Txt} {all : List Rec} {L : List Lf} (h : MInv pg all L) (e : ∀ p, p < 24 → pg' p = pg p) : MInv pg' all L :=
  ⟨h.nodup, h.lt, h.chain, fun l hl => by rw [e _ (h.lt l hl)]; exact h.leaf l hl, fun p hp hq => by rw [e p hp]; exact h.rest p hp hq, fun p hp => by rw [e p hp]; exact h.len p hp, h.ok, h.few⟩
/-- A page is taken out: what it holds now isn't read. -/
theorem MInv.takeOut {pg : Nat → Txt} {all : List Rec} {L : List Lf} {p : Nat} {x : Txt} (h : MInv pg all L) (hf : Free L p) (hx : readF x 0 = none) (hxl : x.length = 4096) : MInv (updP pg p x) all (without L p) := by
  obtain ⟨b, hc, hb1, hb⟩ := h.chain
  obtain ⟨b', hc', hle, hb'⟩ := free_chain h.nodup hc hf
  refine ⟨?_, fun l hl => h.lt l (mem_without.1 hl).1, ⟨b', hc', by omega, ?_⟩, fun l hl => ?_, fun q hq hn => ?_, fun q hq => ?_, h.ok, h.few⟩
  · exact h.nodup.sublist (List.Sublist.map _ List.filter_sublist)
  · rcases hb' with e | e
    · rw [e]; exact hb
    · exact .inr e
  · obtain ⟨h1, h2⟩ := mem_without.1 hl
    rw [updP_ne _ _ _ h2]; exact h.leaf l h1
  · by_cases e : q = p
    · rw [e, updP_at]; exact hx
    · rw [updP_ne _ _ _ e]
      refine h.rest q hq fun hm => hn ?_
      obtain ⟨l, hl, he⟩ := List.mem_map.1 hm
      exact List.mem_map.2 ⟨l, mem_without.2 ⟨hl, fun e2 => e (he.symm.trans e2)⟩, he⟩
  · by_cases e : q = p
    · rw [e, updP_at]; exact hxl
    · rw [updP_ne _ _ _ e]; exact h.len q hq
/-- A page that isn't one of the journal's may hold whatever isn't read. -/
theorem MInv.beside {pg : Nat → Txt} {all : List Rec} {L : List Lf} {p : Nat} {x : Txt} (h : MInv pg all L) (hp : p ∉ L.map (·.page)) (hx : readF x 0 = none) (hxl : x.length = 4096) : MInv (updP pg p x) all L := by
  have hf : Free L p := fun l hl e => absurd (List.mem_map.2 ⟨l, hl, e⟩) hp
  have := h.takeOut hf hx hxl
  rwa [without_self hp] at this
/-- A new page stands behind all others. -/
theorem MInv.begin {pg : Nat → Txt} {all : List Rec} {L : List Lf} {p : Nat} (h : MInv pg all L) (hp : p ∉ L.map (·.page)) (hp2 : p < 24) :
    MInv (updP pg p (headJ (all.length + 1) (safeOf all) ++ bareB (4096 - (headJ (all.length + 1) (safeOf all)).length))) all (L ++ [⟨p, all.length + 1, 0⟩]) := by
  obtain ⟨b, hc, hb1, hb⟩ := h.chain
  have hs := safeOf_ok h.ok
  have hfew := h.few
  have hl := headJ_len (all.length + 1) (safeOf all)
  have hnew : LeafAt (headJ (all.length + 1) (safeOf all) ++ bareB (4096 - (headJ (all.length + 1) (safeOf all)).length)) all (all.length + 1) 0 := by
    refine ⟨by omega, by omega, ?_⟩
    have e1 : seg all (all.length + 1) 0 = [] := by unfold seg; rw [List.take_zero]
    have e2 : all.take (all.length + 1 - 1) = all := by rw [Nat.add_sub_cancel]; exact List.take_length
    rw [e1, e2]
    have := leaf_bare (f := all.length + 1) (st := safeOf all) (rs := []) (by rw [cont_nil]; omega) (fun r hr => by cases hr) hs (by simpa using hfew)
    rwa [cont_nil] at this
  have hpl : ∀ l ∈ L, l.page ≠ p := fun l hl e => hp (List.mem_map.2 ⟨l, hl, e⟩)
  refine ⟨?_, fun l hl => ?_, ⟨b, by have := hc.snoc p 0; exact this, hb1, hb⟩, fun l hl => ?_, fun q hq hn => ?_, fun q hq => ?_, h.ok, h.few⟩
  · rw [List.map_append]
    refine List.nodup_append.2 ⟨h.nodup, by simp, fun x hx y hy => ?_⟩
    simp only [List.map_cons, List.map_nil, List.mem_singleton] at hy
    rw [hy]; exact fun e => hp (e ▸ hx)
  · rcases List.mem_append.1 hl with hl | hl
    · exact h.lt l hl
    · rw [List.mem_singleton] at hl; rw [hl]; exact hp2
  · rcases List.mem_append.1 hl with hl | hl
    · rw [updP_ne _ _ _ (hpl l hl)]; exact h.leaf l hl
    · rw [List.mem_singleton] at hl; rw [hl]
      show LeafAt (updP pg p _ p) all _ _
      rw [updP_at]; exact hnew
  · rw [List.map_append] at hn
    have h1 : q ≠ p := fun e => hn (List.mem_append_right _ (by simp [e]))
    rw [updP_ne _ _ _ h1]
    exact h.rest q hq fun hm => hn (List.mem_append_left _ hm)
  · by_cases e : q = p
    · rw [e, updP_at, List.length_append, bareB_length]; omega
    · rw [updP_ne _ _ _ e]; exact h.len q hq
/-- The page that is burnt to: bare from a place on. -/
structure JInv (pg : Nat → Txt) (all : List Rec) (L0 : List Lf) (l : Lf) (at' : Nat) : Prop where
  mem : MInv pg all (L0 ++ [l])
  page : pg l.page = cont l.first (safeOf (all.take (l.first - 1))) (seg all l.first l.n) ++ bareB (4096 - at')
  place : at' = (cont l.first (safeOf (all.take (l.first - 1))) (seg all l.first l.n)).length
  le : at' ≤ 4096
theorem JInv.begin {pg : Nat → Txt} {all : List Rec} {L : List Lf} {p : Nat} (h : MInv pg all L) (hp : p ∉ L.map (·.page)) (hp2 : p < 24) :
    JInv (updP pg p (headJ (all.length + 1) (safeOf all) ++ bareB (4096 - (headJ (all.length + 1) (safeOf all)).length))) all L ⟨p, all.length + 1, 0⟩ (headJ (all.length + 1) (safeOf all)).length := by
  have e1 : seg all (all.length + 1) 0 = [] := by unfold seg; rw [List.take_zero]
  have e2 : all.take (all.length + 1 - 1) = all := by rw [Nat.add_sub_cancel]; exact List.take_length
  have hs := safeOf_ok h.ok
  have hl := headJ_len (all.length + 1) (safeOf all)
  refine ⟨h.begin hp hp2, ?_, ?_, by omega⟩
  · show updP pg p _ p = _
    rw [updP_at, e1, e2, cont_nil]
  · simp only [e1, e2, cont_nil]
theorem seg_snoc {all : List Rec} {f n : Nat} (r : Rec) (h : f - 1 + n = all.length) : seg (all ++ [r]) f (n + 1) = seg all f n ++ [r] := by
  unfold seg
  rw [List.drop_append_of_le_length (by omega), List.take_of_length_le (by rw [List.length_append, List.length_drop, List.length_singleton]; omega), List.take_of_length_le (by rw [List.length_drop]; omega)]
theorem JInv.end' {pg : Nat → Txt} {all : List Rec} {L0 : List Lf} {l : Lf} {at' : Nat} (h : JInv pg all L0 l at') : 1 ≤ l.first ∧ l.first + l.n = all.length + 1 := by
  obtain ⟨b, hc, _⟩ := h.mem.chain
  exact ⟨(h.mem.leaf l (by simp)).f1, hc.last.2⟩
/-- A record's bytes, cut off. -/
theorem JInv.part {pg : Nat → Txt} {all : List Rec} {L0 : List Lf} {l : Lf} {at' : Nat} (h : JInv pg all L0 l at') (r : Rec) (hr : RecOk r) (c : Nat) (hc : c < r.text.length + 12) (hfit : at' + (r.text.length + 12) ≤ 4096) :
    MInv (updP pg l.page (cont l.first (safeOf (all.take (l.first - 1))) (seg all l.first l.n) ++ ((jf r.kind ((all.length + 1 : Nat) : Int) r.text).take c ++ bareB (4096 - (at' + c))))) all (L0 ++ [l]) := by
  have hm := h.mem
  have hpl := h.place
  have hlf := hm.leaf l (by simp)
  have hj := jf_len r.kind ((all.length + 1 : Nat) : Int) r.text
  have hll : (cont l.first (safeOf (all.take (l.first - 1))) (seg all l.first l.n) ++ ((jf r.kind ((all.length + 1 : Nat) : Int) r.text).take c ++ bareB (4096 - (at' + c)))).length = 4096 := by
    rw [List.length_append, List.length_append, List.length_take, bareB_length, ← hpl]; omega
  have hnd := hm.nodup
  rw [List.map_append] at hnd
  have hne : ∀ x ∈ L0, x.page ≠ l.page := fun x hx => (List.nodup_append.1 hnd).2.2 x.page (List.mem_map.2 ⟨x, hx, rfl⟩) l.page (by simp)
  refine ⟨hm.nodup, hm.lt, hm.chain, fun x hx => ?_, fun q hq hn => ?_, fun q hq => ?_, hm.ok, hm.few⟩
  · rcases List.mem_append.1 hx with hx0 | hx0
    · rw [updP_ne _ _ _ (hne x hx0)]; exact hm.leaf x hx
    · rw [List.mem_singleton] at hx0; rw [hx0, updP_at]
      exact ⟨hlf.f1, hlf.le, leaf_part hc hr.2 hll hlf.on.okr hlf.on.oks hlf.on.num⟩
  · have h1 : q ≠ l.page := fun e => hn (by rw [List.map_append]; exact List.mem_append_right _ (by simp [e]))
    rw [updP_ne _ _ _ h1]; exact hm.rest q hq hn
  · by_cases e : q = l.page
    · rw [e, updP_at]; exact hll
    · rw [updP_ne _ _ _ e]; exact hm.len q hq
/-- A record, whole. -/
theorem JInv.add {pg : Nat → Txt} {all : List Rec} {L0 : List Lf} {l : Lf} {at' : Nat} (h : JInv pg all L0 l at') (r : Rec) (hr : RecOk r) (hfit : at' + (r.text.length + 12) ≤ 4096) (hfew : all.length + 2 < 4294967296) :
    JInv (updP pg l.page (cont l.first (safeOf (all.take (l.first - 1))) (seg all l.first l.n) ++ (jf r.kind ((all.length + 1 : Nat) : Int) r.text ++ bareB (4096 - (at' + (r.text.length + 12)))))) (all ++ [r]) L0 ⟨l.page, l.first, l.n + 1⟩ (at' + (r.text.length + 12)) := by
  have hm := h.mem
  have hpl := h.place
  have hlf := hm.leaf l (by simp)
  obtain ⟨hf1, hend⟩ := h.end'
  have hj := jf_len r.kind ((all.length + 1 : Nat) : Int) r.text
  have hsl := seg_len hlf.le
  have e1 : seg (all ++ [r]) l.first (l.n + 1) = seg all l.first l.n ++ [r] := seg_snoc r (by omega)
  have e2 : (all ++ [r]).take (l.first - 1) = all.take (l.first - 1) := take_more r (by omega)
  have e3 : cont l.first (safeOf (all.take (l.first - 1))) (seg all l.first l.n ++ [r]) = cont l.first (safeOf (all.take (l.first - 1))) (seg all l.first l.n) ++ jf r.kind ((all.length + 1 : Nat) : Int) r.text := by
    rw [cont_snoc, hsl, hend]
  have hll : (cont l.first (safeOf (all.take (l.first - 1))) (seg all l.first l.n) ++ jf r.kind ((all.length + 1 : Nat) : Int) r.text).length = at' + (r.text.length + 12) := by rw [List.length_append, hj, ← hpl]
  have hnd := hm.nodup
  rw [List.map_append] at hnd
  have hne : ∀ x ∈ L0, x.page ≠ l.page := fun x hx => (List.nodup_append.1 hnd).2.2 x.page (List.mem_map.2 ⟨x, hx, rfl⟩) l.page (by simp)
  have hokr : ∀ x ∈ seg all l.first l.n ++ [r], RecOk x := fun x hx => by
    rcases List.mem_append.1 hx with hx | hx
    · exact hlf.on.okr x hx
    · rw [List.mem_singleton] at hx; rw [hx]; exact hr
  have hnew : LeafAt (cont l.first (safeOf (all.take (l.first - 1))) (seg all l.first l.n) ++ (jf r.kind ((all.length + 1 : Nat) : Int) r.text ++ bareB (4096 - (at' + (r.text.length + 12))))) (all ++ [r]) l.first (l.n + 1) := by
    refine ⟨hf1, by rw [List.length_append, List.length_singleton]; omega, ?_⟩
    rw [e1, e2]
    have := leaf_bare (f := l.first) (st := safeOf (all.take (l.first - 1))) (rs := seg all l.first l.n ++ [r]) (by rw [e3, hll]; exact hfit) hokr hlf.on.oks (by rw [List.length_append, List.length_singleton, hsl]; omega)
    rw [e3, hll, List.append_assoc] at this
    exact this
  obtain ⟨b, hc, hb1, hb⟩ := hm.chain
  refine ⟨⟨?_, fun x hx => ?_, ⟨b, ?_, hb1, ?_⟩, fun x hx => ?_, fun q hq hn => ?_, fun q hq => ?_, fun x hx => ?_, ?_⟩, ?_, ?_, hfit⟩
  · rw [List.map_append]; exact hnd
  · rcases List.mem_append.1 hx with hx | hx
    · exact hm.lt x (List.mem_append_left _ hx)
    · rw [List.mem_singleton] at hx; rw [hx]; exact hm.lt l (by simp)
  · have h1 := (hc.last.1).snoc l.page (l.n + 1)
    rw [List.length_append, List.length_singleton, show all.length + 1 + 1 = l.first + (l.n + 1) by omega]
    exact h1
  · rw [List.length_append, List.length_singleton]; omega
  · rcases List.mem_append.1 hx with hx0 | hx0
    · rw [updP_ne _ _ _ (hne x hx0)]; exact (hm.leaf x (List.mem_append_left _ hx0)).more r
    · rw [List.mem_singleton] at hx0; rw [hx0]
      show LeafAt (updP pg l.page _ l.page) _ _ _
      rw [updP_at]; exact hnew
  · have h1 : q ∉ (L0 ++ [l]).map (·.page) := by rw [List.map_append] at hn ⊢; exact hn
    have h2 : q ≠ l.page := fun e => h1 (by rw [List.map_append]; exact List.mem_append_right _ (by simp [e]))
    rw [updP_ne _ _ _ h2]; exact hm.rest q hq h1
  · by_cases e : q = l.page
    · rw [e, updP_at]; exact hnew.on.len
    · rw [updP_ne _ _ _ e]; exact hm.len q hq
  · rcases List.mem_append.1 hx with hx | hx
    · exact hm.ok x hx
    · rw [List.mem_singleton] at hx; rw [hx]; exact hr
  · rw [List.length_append, List.length_singleton]; omega
  · show updP pg l.page _ l.page = _
    rw [updP_at]
    simp only [e1, e2, e3, List.append_assoc]
  · simp only [e1, e2, e3, hll]
end Go.Proofs.Ytknclcjmfgdphaa
namespace Go.BK
open Go.RowKit
section
variable {P : Program} {w0 : World} {S0 : BSet} {n : Nat} {F : Fr} {A A' r : List HP} {T U : TypeId} {bl : Nat} {v v2 : Value}
theorem WE.retC3 {fn : Func} {t t' t'' : Nat} {R : Value → List HP → Prop} {l : List Value} (hr : fn.results = #[.cell t T, .tmp t', .tmp t'']) (hv : F.get t = some (ptr bl 0)) (hv' : F.get t' = some v) (hv2 : F.get t'' = some v2) (ht : Take (.blk bl l.toArray U) A r) (hag : aggB P T = true) (hm : szB P T = some l.length) (k : ∀ w, St w0 S0 A w → St w0 S0 A' w) (h : R (.tuple #[.agg l.toArray, v, v2]) A') :
    WE w0 S0 n (bodyPost P fn (RetSt w0 S0 R)) .ret F A :=
  ⟨fun act w ha hs => bodyPost_ret (v := .tuple #[.agg l.toArray, v, v2]) (by
    have hl := runLoadVar (P := P) (w := w) hag hm (hs.blk ht)
    have hg : act.tmps.getD t undef = ptr bl 0 := by rw [Array.getD_eq_getD_getElem?, ha.get t _ hv]; rfl
    have hg' : act.tmps.getD t' undef = v := by rw [Array.getD_eq_getD_getElem?, ha.get t' _ hv']; rfl
    have hg2 : act.tmps.getD t'' undef = v2 := by rw [Array.getD_eq_getD_getElem?, ha.get t'' _ hv2]; rfl
    rw [Array.getD_eq_getD_getElem?] at hg hg' hg2
    simp [results, hr, hg, hg', hg2, asAddr, hl]) ha.defers ⟨_, A', rfl, h, k w hs⟩⟩
variable {F : Fr} {dd : Option Tmp} {pos : String} {af : Array Edge} {g : Option (Nat × Bool)}
/-- A call of a function value that leaves memory as it is, in a region of open order. -/
theorem EvW.callVQ {f : FuncId} {z : Operand} {caps : List Value} {args : List Operand} {ats : Array TypeId} {vals : List Value} {R : Value → List HP → Prop} (hz : ev F z = some (.func (.func f) #[] caps.toArray)) (hargs : evs F args = some vals)
    (hspec : ∀ w S, (sepL []).sat S w → (∀ B, Sees w0 S0 B → Sees w S B) → (∀ B r, Take B A r → Sees w S B) → Tri P f (vals ++ caps).toArray w S R) (hcall : ∀ w, (callFunc f (vals ++ caps).toArray).run P w = .ok (.enter f (vals ++ caps).toArray) w)
    (hR : ∀ v' A', R v' A' → v' = v ∧ A' = []) : EvW P w0 S0 n F A ⟨dd, .call ⟨.value z, args.toArray, ats⟩, T, pos, af, g⟩ v := by
  refine ⟨fun Q K a w ha hs hK => ?_⟩
  have hvals := evs_map ha args vals hargs
  obtain ⟨S, h1, h2, h3⟩ := hs
  obtain ⟨S1, S2, hu, hdis, h4, h5⟩ := (TakeL.nil (A := A)).star h1
  have hsp := (hspec w S1 h4 (fun B hB => hB.down h2 h3 fun b hb => (hu b).2 (.inl hb)) (fun B r tB => by
    obtain ⟨S3, S4, hu', hd', h6, h7⟩ := tB.star h5
    exact ⟨S3, h6, fun b hb hb' => hdis b hb' ((hu' b).2 (.inl hb))⟩)).go
  have hrun : (execOp a.eval ⟨dd, .call ⟨.value z, args.toArray, ats⟩, T, pos, af, g⟩).run P w = .ok (.enter f (vals ++ caps).toArray) w := by
    have hc := hcall w
    have e2 : vals.toArray ++ caps.toArray = (vals ++ caps).toArray := by simp
    have e1 : (args.toArray.map a.eval) = vals.toArray := by simp [hvals]
    simp only [execOp, resolve, e1, ha.eval hz, Deferred.ofValue, Sem.run_bind, Sem.run_pure, Result.andThen, invoke, Array.empty_append, e2]
    exact hc
  unfold Oper.wp
  rw [hrun]
  refine hsp.mono ?_
  rintro e w' ⟨v', A', rfl, hRR, S', h6, h7, h8⟩
  obtain ⟨rfl, rfl⟩ := hR v' A' hRR
  refine hK w' ?_
  have hext : Ext S w w' := ⟨h7.os, h7.tape, h7.output, h7.size, fun b hb hnb => h7.keep b hb fun h => hnb ((hu b).2 (.inl h))⟩
  have hst : St w0 S0 ([] ++ A) w' := by
    refine ⟨fun b => S' b ∨ S2 b, sepL_append ⟨S', S2, fun _ => Iff.rfl, fun b hb hb2 => ?_, h6, (sepL A).loc h5 fun b hb => h7.keep b ((sepL A).bnd h5 hb) fun h => hdis b h hb⟩, h2.step hext h3, fun b hb => ?_⟩
    · rcases h8 b hb with h | h
      · exact hdis b h hb2
      · have := (sepL A).bnd h5 hb2; omega
    · rcases hb with hb | hb
      · rcases h8 b hb with h | h
        · exact h3 b ((hu b).2 (.inl h))
        · exact .inr (Nat.le_trans h2.size h)
      · exact h3 b ((hu b).2 (.inr hb))
  exact hst
theorem EvW.to {o : Oper} {v v' : Value} (h : EvW P w0 S0 n F A o v) (e : v = v') : EvW P w0 S0 n F A o v' := e ▸ h
end
end Go.BK
namespace Go.BK
open Go.RowKit
section
variable {P : Program} {w0 : World} {S0 : BSet} {n : Nat} {F : Fr} {A A' r r' : List HP} {dd : Option Tmp} {T : TypeId} {pos : String} {af : Array Edge} {x y : Operand} {t ty : TypeId} {g : Option (Nat × Bool)} {ops : Array Oper} {rest : List Oper} {Q : Exit → Act → World → Prop} {L L' : List HP} {z : HP}
theorem take_at : ∀ {L : List HP} {i : Nat} {z : HP}, L[i]? = some z → Take z L (L.eraseIdx i)
  | [], _, _, h => by simp at h
  | a :: L, 0, z, h => by simp at h; subst h; exact .head
  | a :: L, i + 1, z, h => .tail (take_at (by simpa using h))
theorem St.out {w : World} (ht : Take (sepL L) A r) (hz : Take z L L') (h : St w0 S0 A w) : St w0 S0 (z :: sepL L' :: r) w :=
  h.mono fun _ _ hs => star_assoc (star_mono (ht.star hs) (fun _ h => hz.star h) fun _ h => h)
theorem WL.out (ht : Take (sepL L) A r) (hz : Take z L L') (kk : WL P w0 S0 n ops Q rest F (z :: sepL L' :: r)) : WL P w0 S0 n ops Q rest F A := kk.conv fun _ hs => St.out ht hz hs
theorem WC.out {c : Code} (ht : Take (sepL L) A r) (hz : Take z L L') (kk : WC P w0 S0 n c Q F (z :: sepL L' :: r)) : WC P w0 S0 n c Q F A := kk.conv fun _ hs => St.out ht hz hs
end
end Go.BK
namespace Go.BK
open Go.RowKit
section
variable {P : Program} {w0 : World} {S0 : BSet} {n : Nat} {F : Fr} {A r : List HP} {ops : Array Oper} {rest : List Oper} {Q : Exit → Act → World → Prop} {L LR : List HP}
theorem St.unpack {w : World} (ht : Take (sepL L) A r) (hL : LR = L ++ r) (st : St w0 S0 A w) : St w0 S0 LR w := st.mono fun _ _ hs => by rw [hL]; exact sepL_append (ht.star hs)
theorem WL.unpack (ht : Take (sepL L) A r) (hL : LR = L ++ r) (kk : WL P w0 S0 n ops Q rest F LR) : WL P w0 S0 n ops Q rest F A := kk.conv fun _ hs => hs.unpack ht hL
theorem WC.unpack {c : Code} (ht : Take (sepL L) A r) (hL : LR = L ++ r) (kk : WC P w0 S0 n c Q F LR) : WC P w0 S0 n c Q F A := kk.conv fun _ hs => hs.unpack ht hL
theorem WE.unpack {e : Exit} (ht : Take (sepL L) A r) (hL : LR = L ++ r) (kk : WE w0 S0 n Q e F LR) : WE w0 S0 n Q e F A := kk.conv fun _ hs => hs.unpack ht hL
theorem St.noneL {w : World} (h : St w0 S0 A w) : St w0 S0 (sepL [] :: A) w :=
  h.mono fun S w hs => ⟨fun _ => False, S, fun b => by simp, fun b hb => hb.elim, fun _ h => h, hs⟩
theorem WC.noneL {c : Code} (kk : WC P w0 S0 n c Q F (sepL [] :: A)) : WC P w0 S0 n c Q F A := kk.conv fun _ hs => St.noneL hs
/-- A part of what is seen. -/
theorem Sees.part {w : World} {S : BSet} {B : HP} {L' : List HP} (h : Sees w S (sepL L)) (ht : Take B L L') : Sees w S B := by
  obtain ⟨R, h1, h2⟩ := h
  obtain ⟨S1, S2, hu, _, h3, _⟩ := ht.star h1
  exact ⟨S1, h3, fun b hb => h2 b ((hu b).2 (.inl hb))⟩
end
theorem take_map_last {α : Type} (f : α → HP) (x : α) : ∀ l : List α, Take (f x) ((l ++ [x]).map f) (l.map f)
  | [] => .head
  | _ :: r => .tail (take_map_last f x r)
theorem take_map_at {α : Type} {f : α → HP} {l : List α} {d : α} {i : Nat} (h : i < l.length) : (l.map f)[i]? = some (f (l.getD i d)) := by
  rw [List.getElem?_map, List.getD_eq_getElem?_getD, List.getElem?_eq_getElem h]; rfl
end Go.BK
namespace Go.BK
open Go.RowKit
section
variable {P : Program} {w0 : World} {S0 : BSet} {n : Nat} {F : Fr} {A A' r r' : List HP} {bl bl' : Nat} {T T' U U' : TypeId}
end
end Go.BK
namespace Go.Proofs.Ytknclcjmfgdphaa
open Go.RowKit Go.BK
theorem jnum (k : Nat) (o : Txt) (lim : Int) (n : Int) (h0 : 0 ≤ n) (h1 : n < 2 ^ (8 * k)) (hl : (o.length : Int) + k ≤ lim) : (PW.mk 0 o lim).num k n = PW.mk 0 (o ++ be k n) lim := by
  have hd : n.fdiv (2 ^ (8 * k)) = 0 := by rw [fdiv_two]; exact Int.ediv_eq_zero_of_lt h0 h1
  unfold PW.num
  rw [if_neg (by rw [hd]; omega)]
  unfold PW.put
  rw [if_neg (by rw [be_length]; simp only []; omega), if_pos rfl]
  rfl
theorem frame_spec (k n : Int) (t : Txt) (w : World) (S : BSet) (hS : (sepL []).sat S w) (hk0 : 0 ≤ k) (hk : k < 256) (hn0 : 0 ≤ n) (hn : n < 4294967296) (ht : t.length ≤ 1000) :
    Tri Try.prog 25 #[i64 k, i64 n, str t] w S fun u A => u = str (jf k n t) ∧ A = [] := by
  refine Tri.enter (l := [i64 k, i64 n, str t]) Try.func25 rfl Try.ntmps25 rfl [(0, i64 k), (1, i64 n), (2, str t)] (subA rfl) hS ?_
  have hm1 : [k].foldl (PW.num 1) (PW.init 8) = PW.mk 0 (be 1 k) 8 := jnum 1 [] 8 k hk0 (by simpa using hk) (by decide)
  have hm2 : [n].foldl (PW.num 4) (PW.mk 0 (be 1 k) 8) = PW.mk 0 (be 1 k ++ be 4 n) 8 := jnum 4 (be 1 k) 8 n hn0 (by simpa using hn) (by rw [be_length]; decide)
  have hf8 : (PW.mk 0 (be 1 k) 8).fits ([n].map fun _ => 4).sum := ⟨by show (0 : Int) ≤ 8; decide, by show (8 : Int) ≤ 9223372036854775807; decide, .inr (by rw [be_length]; simp)⟩
  have hb := bodyJ_len k n t
  have hl5 : (be 1 k ++ be 4 n).length = 5 := by rw [List.length_append, be_length, be_length]
  have hfl := frame_length (bodyJ k n t)
  repeat first
    | (apply WL.q; exact rfl; exact rfl; exact rfl; (first | (apply EvW.assign; exact rfl)))
    | refine WC.seq ?_ | refine WC.region ?_ | refine WL.nil ?_ | refine WE.next ?_
  try refine WL.wanted rfl rfl rfl ?_
  apply WL.callA ([])
  · exact rfl
  · exact rfl
  · exact fun w => Try.call42 _ w
  · (focus ((repeat constructor); done))
  · exact fun w1 S1 hS1 hs1 ho1 => new_spec 8 w1 S1 hS1
  rintro _ _ ⟨b, rfl, rfl⟩
  first | refine WL.app4 ?_ | refine WL.app3 ?_ | refine WL.app2 ?_ | refine WL.app1 ?_ | refine WL.app0 ?_ | skip
  repeat first
    | (apply WL.q; exact rfl; exact rfl; exact rfl; (first | (apply EvW.move; exact rfl) | (apply EvW.assign; exact rfl)))
    | refine WC.seq ?_ | refine WC.region ?_ | refine WL.nil ?_ | refine WE.next ?_
  try refine WL.wanted rfl rfl rfl ?_
  (apply WL.buildSlice; exact rfl; exact UndC.eq; exact SzC.eq; exact ZvC.eq; exact rfl; exact rfl; exact rfl; ((focus ((repeat (first | exact Flat.nil | (apply Flat.one; (first | exact rfl | assumption)) | (apply Flat.cons; exact rfl; exact rfl))); done))); exact rfl; exact rfl; intro c)
  try refine WL.wanted rfl rfl rfl ?_
  apply WL.callA ([.own 5 1 (Value.slice none 0 0) (PW.init 8).out.length ((PW.init 8).out.map byt), .blk b #[i64 (PW.init 8).e, Value.slice none 0 0, i64 (PW.init 8).lim] 130])
  · exact rfl
  · exact rfl
  · exact fun w => Try.call43 _ w
  · (focus ((repeat constructor); done))
  · exact fun w1 S1 hS1 hs1 ho1 => byte_spec b _ _ (PW.init 8) [k] w1 S1 hS1 ((ho1 _ _ .head).blkRow rfl (fun k u h => by simpa using h) (by simp)) (init_fits 8 _ (by decide) (by simp)) (by simp)
  rintro _ _ ⟨rfl, v1, rfl⟩
  first | refine WL.app4 ?_ | refine WL.app3 ?_ | refine WL.app2 ?_ | refine WL.app1 ?_ | refine WL.app0 ?_ | skip
  rw [hm1]
  repeat first
    | (apply WL.q; exact rfl; exact rfl; exact rfl; (first | (apply EvW.move; exact rfl)))
    | refine WC.seq ?_ | refine WC.region ?_ | refine WL.nil ?_ | refine WE.next ?_
  try refine WL.wanted rfl rfl rfl ?_
  (apply WL.buildSlice; exact rfl; exact UndC.eq; exact SzC.eq; exact ZvC.eq; exact rfl; exact rfl; exact rfl; ((focus ((repeat (first | exact Flat.nil | (apply Flat.one; (first | exact rfl | assumption)) | (apply Flat.cons; exact rfl; exact rfl))); done))); exact rfl; exact rfl; intro c2)
  try refine WL.wanted rfl rfl rfl ?_
  apply WL.callA ([.own 5 1 (v1) (PW.mk 0 (be 1 k) 8).out.length ((PW.mk 0 (be 1 k) 8).out.map byt), .blk b #[i64 (PW.mk 0 (be 1 k) 8).e, v1, i64 (PW.mk 0 (be 1 k) 8).lim] 130])
  · exact rfl
  · exact rfl
  · exact fun w => Try.call44 _ w
  · (focus ((repeat constructor); done))
  · exact fun w1 S1 hS1 hs1 ho1 => long_spec b _ _ (PW.mk 0 (be 1 k) 8) [n] w1 S1 hS1 ((ho1 _ _ .head).blkRow rfl (fun k u h => by simpa using h) (by simp)) hf8 (by simp)
  rintro _ _ ⟨rfl, v2, rfl⟩
  first | refine WL.app4 ?_ | refine WL.app3 ?_ | refine WL.app2 ?_ | refine WL.app1 ?_ | refine WL.app0 ?_ | skip
  rw [hm2]
  repeat first
    | (apply WL.q; exact rfl; exact rfl; exact rfl; (first | (apply EvW.move; exact rfl)))
    | refine WC.seq ?_ | refine WC.region ?_ | refine WL.nil ?_ | refine WE.next ?_
  try refine WL.wanted rfl rfl rfl ?_
  apply WL.callA ([.own 5 1 (v2) (PW.mk 0 (be 1 k ++ be 4 n) 8).out.length ((PW.mk 0 (be 1 k ++ be 4 n) 8).out.map byt), .blk b #[i64 (PW.mk 0 (be 1 k ++ be 4 n) 8).e, v2, i64 (PW.mk 0 (be 1 k ++ be 4 n) 8).lim] 130])
  · exact rfl
  · exact rfl
  · exact fun w => Try.call45 _ w
  · (focus ((repeat constructor); done))
  · exact fun w1 S1 hS1 hs1 ho1 => done_spec b v2 (PW.mk 0 (be 1 k ++ be 4 n) 8) w1 S1 hS1
  rintro _ _ ⟨rfl, rfl⟩
  first | refine WL.app4 ?_ | refine WL.app3 ?_ | refine WL.app2 ?_ | refine WL.app1 ?_ | refine WL.app0 ?_ | skip
  rw [show (PW.mk 0 (be 1 k ++ be 4 n) 8).said = be 1 k ++ be 4 n from rfl]
  repeat first
    | (apply WL.q; exact rfl; exact rfl; exact rfl; (first | (apply EvW.move; exact rfl) | (apply EvW.assign; exact rfl) | (apply EvW.extract; exact rfl; exact rfl)))
    | refine WC.seq ?_ | refine WC.region ?_ | refine WL.nil ?_ | refine WE.next ?_
  try refine WL.wanted rfl rfl rfl ?_
  (apply WL.buildSlice; exact rfl; exact UndC.eq; exact SzC.eq; exact ZvC.eq; exact rfl; exact rfl; exact rfl; ((focus ((repeat (first | exact Flat.nil | (apply Flat.one; (first | exact rfl | assumption)) | (apply Flat.cons; exact rfl; exact rfl))); done))); exact rfl; exact rfl; intro c3)
  try refine WL.wanted rfl rfl rfl ?_
  apply WL.callA ([])
  · exact rfl
  · exact rfl
  · exact fun w => Try.call46 _ w
  · (focus ((repeat constructor); done))
  · exact fun w1 S1 hS1 hs1 ho1 => seal_spec _ [be 1 k ++ be 4 n, t] w1 S1 hS1 ((ho1 _ _ .head).blkRow rfl (fun k u h => by simpa using h) (by simp)) (by simp) (by simp only [List.flatten_cons, List.flatten_nil, List.length_append, List.append_nil, be_length]; omega)
  rintro _ _ ⟨rfl, rfl⟩
  first | refine WL.app4 ?_ | refine WL.app3 ?_ | refine WL.app2 ?_ | refine WL.app1 ?_ | refine WL.app0 ?_ | skip
  rw [show [be 1 k ++ be 4 n, t].flatten = bodyJ k n t by simp [bodyJ], show sealF (bodyJ k n t) = (frame (bodyJ k n t), 0) by unfold sealF; rw [if_neg (by omega)]]
  repeat first
    | (apply WL.q; exact rfl; exact rfl; exact rfl; (first | (apply EvW.move; exact rfl) | (apply EvW.assign; exact rfl) | (apply EvW.extract; exact rfl; exact rfl) | (apply EvW.sadd; exact rfl; exact rfl; (first | omega | (simp only [List.length_append, List.length_cons, List.length_nil]; omega)))))
    | refine WC.seq ?_ | refine WC.region ?_ | refine WL.nil ?_ | refine WE.next ?_ | refine WC.ret ?_
  refine WE.keep (xs := []) (by repeat constructor) ?_
  refine WE.ret1 rfl rfl ?_
  exact ⟨rfl, rfl⟩
theorem nextF_body (l : Txt) (a : Int) : (nextF l a).1.length ≤ l.length := by
  unfold nextF
  split
  · exact Nat.zero_le _
  · split
    · exact Nat.zero_le _
    · unfold bodyF
      split
      · exact Nat.zero_le _
      · simp only [List.length_drop, List.length_take]; omega
/-- What reading answers. -/
def readV : Option (Int × Int × Txt × Nat) → Value
  | some (k, n, t, e) => .tuple #[.agg #[i64 n, i64 k, str t], i64 e, .bool true]
  | none => .tuple #[.agg #[i64 0, i64 0, str []], i64 0, .bool false]
theorem jread_spec (l : Txt) (a : Nat) (w : World) (S : BSet) (hS : (sepL []).sat S w) (hl : l.length ≤ 1048576) :
    Tri Try.prog 58 #[str l, i64 a] w S fun u A => u = readV (readF l a) ∧ A = [] := by
  refine Tri.enter (l := [str l, i64 a]) Try.func58 rfl Try.ntmps58 rfl [(0, str l), (1, i64 a)] (subA rfl) hS ?_
  repeat first
    | refine WC.seq ?_ | refine WC.region ?_
  try refine WL.wanted rfl rfl rfl ?_
  (apply WL.alloc; exact rfl; exact ZvC.eq; exact rfl; intro rb)
  repeat first
    | (apply WL.q; exact rfl; exact rfl; exact rfl; (first | (apply EvW.move; exact rfl) | (apply EvW.assign; exact rfl)))
    | refine WC.seq ?_ | refine WC.region ?_ | refine WL.nil ?_ | refine WE.next ?_
  try refine WL.wanted rfl rfl rfl ?_
  apply WL.callA ([])
  · exact rfl
  · exact rfl
  · exact fun w => Try.call73 _ w
  · (focus ((repeat constructor); done))
  · exact fun w1 S1 hS1 hs1 ho1 => next_spec l a w1 S1 hS1 (by omega)
  rintro _ _ ⟨rfl, rfl⟩
  first | refine WL.app4 ?_ | refine WL.app3 ?_ | refine WL.app2 ?_ | refine WL.app1 ?_ | refine WL.app0 ?_ | skip
  have hR : readF l a = if (nextF l a).2.2 ≠ 0 then none else if (l.length : Int) ≤ (nextF l a).2.1 then none else if l.getD (nextF l a).2.1.toNat 0 ≠ 0 then none else if (nextF l a).1.length < 5 then none else some (numOf ((nextF l a).1.take 1), numOf (((nextF l a).1.drop 1).take 4), (nextF l a).1.drop 5, (nextF l a).2.1.toNat + 1) := rfl
  have hE := nextF_end l a
  have hbl := nextF_body l a
  obtain ⟨q, hq⟩ : ∃ q, nextF l a = q := ⟨_, rfl⟩
  rw [hq] at hR hE hbl ⊢
  obtain ⟨x, e, c⟩ := q
  dsimp only at hR hE hbl ⊢
  have hN := numOf_bd ((l.drop a).take 2)
  by_cases h1 : c = 0
  rotate_left
  · rw [hR, if_pos h1]
    repeat first
      | (apply WL.q; exact rfl; exact rfl; exact rfl; (first | (apply EvW.move; exact rfl) | (apply EvW.assign; exact rfl) | (apply EvW.extract; exact rfl; exact rfl)))
      | refine WC.seq ?_ | refine WL.nil ?_ | refine WE.next ?_
    repeat refine WC.seq ?_
    apply WC.drawQ Try.mixed
    · (focus ((repeat (first | exact Restr.nil | (apply Restr.keep; exact rfl; exact rfl) | (apply Restr.drop; exact rfl))); done))
    · exact rfl
    · decide +kernel
    · decide +kernel
    · repeat first
        | exact Draws.nil
        | (apply Draws.skip; exact rfl; exact rfl)
        | (apply Draws.q0; exact rfl
           (first | (apply EvW.move; exact rfl) | (apply EvW.cmpT; exact rfl; exact rfl; exact rfl; omega) | (apply EvW.pickT; exact rfl; exact rfl)))
    apply WE.writ
    · (focus ((repeat (first | exact Writ.nil | apply Writ.some | apply Writ.none)); done))
    repeat first
      | (apply WL.q; exact rfl; exact rfl; exact rfl; (first | (apply EvW.assign; exact rfl) | (apply EvW.build; exact PlC.eq; exact ZvC.eq; exact rfl; exact rfl; (focus ((repeat (first | exact Fills.nil | (apply Fills.cons; exact rfl; (first | assumption | exact rfl); exact rfl) | exact SetMany.nil | apply SetMany.cons | apply SetMany.succ)); done)))))
      | refine WC.seq ?_ | refine WC.region ?_ | refine WL.nil ?_ | refine WE.next ?_ | refine WC.condT rfl ?_ | refine WC.ret ?_ | refine WE.passRet ?_ | (apply WL.store; exact rfl; exact rfl; (first | assumption | exact rfl); exact SzC.eq; (first | assumption | exact rfl); (focus ((repeat constructor); done)))
    (apply WE.retC3 (A' := []); exact rfl; exact rfl; exact rfl; exact rfl; (focus ((repeat constructor); done)); exact AggC.eq; exact SzC.eq; exact fun _ h => h.keep (by repeat constructor))
    exact ⟨rfl, rfl⟩
  have hE := hE h1
  subst h1
  rw [if_neg (by simp)] at hR
  by_cases h2 : (l.length : Int) ≤ e
  · rw [hR, if_pos h2]
    repeat first
      | (apply WL.q; exact rfl; exact rfl; exact rfl; (first | (apply EvW.move; exact rfl) | (apply EvW.assign; exact rfl) | (apply EvW.extract; exact rfl; exact rfl)))
      | refine WC.seq ?_ | refine WL.nil ?_ | refine WE.next ?_
    repeat refine WC.seq ?_
    apply WC.drawQ Try.mixed
    · (focus ((repeat (first | exact Restr.nil | (apply Restr.keep; exact rfl; exact rfl) | (apply Restr.drop; exact rfl))); done))
    · exact rfl
    · decide +kernel
    · decide +kernel
    · repeat first
        | exact Draws.nil
        | (apply Draws.skip; exact rfl; exact rfl)
        | (apply Draws.q0; exact rfl
           (first | (apply EvW.move; exact rfl) | (apply EvW.lenS; exact rfl; exact UndC.eq) | (apply EvW.cmpT; exact rfl; exact rfl; exact rfl; omega) | (apply EvW.cmpF; exact rfl; exact rfl; exact rfl; omega) | (apply EvW.pickT; exact rfl; exact rfl) | (apply EvW.pickF; exact rfl; exact rfl)))
    apply WE.writ
    · (focus ((repeat (first | exact Writ.nil | apply Writ.some | apply Writ.none)); done))
    repeat first
      | (apply WL.q; exact rfl; exact rfl; exact rfl; (first | (apply EvW.assign; exact rfl) | (apply EvW.build; exact PlC.eq; exact ZvC.eq; exact rfl; exact rfl; (focus ((repeat (first | exact Fills.nil | (apply Fills.cons; exact rfl; (first | assumption | exact rfl); exact rfl) | exact SetMany.nil | apply SetMany.cons | apply SetMany.succ)); done)))))
      | refine WC.seq ?_ | refine WC.region ?_ | refine WL.nil ?_ | refine WE.next ?_ | refine WC.condT rfl ?_ | refine WC.ret ?_ | refine WE.passRet ?_ | (apply WL.store; exact rfl; exact rfl; (first | assumption | exact rfl); exact SzC.eq; (first | assumption | exact rfl); (focus ((repeat constructor); done)))
    (apply WE.retC3 (A' := []); exact rfl; exact rfl; exact rfl; exact rfl; (focus ((repeat constructor); done)); exact AggC.eq; exact SzC.eq; exact fun _ h => h.keep (by repeat constructor))
    exact ⟨rfl, rfl⟩
  rw [if_neg h2] at hR
  by_cases h3 : l.getD e.toNat 0 ≠ 0
  · rw [hR, if_pos h3]
    have hl0 : ((0 : Int)) < (([0] : Txt).length : Int) := by decide
    have h3' : ¬ ((l.getD e.toNat 0).toNat : Int) = ((([0] : Txt).getD (Int.toNat 0) 0).toNat : Int) := fun h => h3 (UInt8.toNat_inj.1 (by show (l.getD e.toNat 0).toNat = 0; have h' : ((l.getD e.toNat 0).toNat : Int) = 0 := h; omega))
    repeat first
      | (apply WL.q; exact rfl; exact rfl; exact rfl; (first | (apply EvW.move; exact rfl) | (apply EvW.assign; exact rfl) | (apply EvW.extract; exact rfl; exact rfl)))
      | refine WC.seq ?_ | refine WL.nil ?_ | refine WE.next ?_
    repeat refine WC.seq ?_
    apply WC.drawQ Try.mixed
    · (focus ((repeat (first | exact Restr.nil | (apply Restr.keep; exact rfl; exact rfl) | (apply Restr.drop; exact rfl))); done))
    · exact rfl
    · decide +kernel
    · decide +kernel
    · repeat first
        | exact Draws.nil
        | (apply Draws.skip; exact rfl; exact rfl)
        | (apply Draws.q0; exact rfl
           (first | (apply EvW.move; exact rfl) | (apply EvW.lenS; exact rfl; exact UndC.eq) | (apply EvW.cmpT; exact rfl; exact rfl; exact rfl; omega) | (apply EvW.cmpF; exact rfl; exact rfl; exact rfl; omega) | (apply EvW.pickF; exact rfl; exact rfl) | (apply EvW.index; exact rfl; exact rfl; exact UndC.eq; omega; omega)))
    apply WE.writ
    · (focus ((repeat (first | exact Writ.nil | apply Writ.some | apply Writ.none)); done))
    repeat first
      | (apply WL.q; exact rfl; exact rfl; exact rfl; (first | (apply EvW.assign; exact rfl) | (apply EvW.build; exact PlC.eq; exact ZvC.eq; exact rfl; exact rfl; (focus ((repeat (first | exact Fills.nil | (apply Fills.cons; exact rfl; (first | assumption | exact rfl); exact rfl) | exact SetMany.nil | apply SetMany.cons | apply SetMany.succ)); done)))))
      | refine WC.seq ?_ | refine WC.region ?_ | refine WL.nil ?_ | refine WE.next ?_ | refine WC.condT rfl ?_ | refine WC.ret ?_ | refine WE.passRet ?_ | (apply WL.store; exact rfl; exact rfl; (first | assumption | exact rfl); exact SzC.eq; (first | assumption | exact rfl); (focus ((repeat constructor); done)))
    (apply WE.retC3 (A' := []); exact rfl; exact rfl; exact rfl; exact rfl; (focus ((repeat constructor); done)); exact AggC.eq; exact SzC.eq; exact fun _ h => h.keep (by repeat constructor))
    exact ⟨rfl, rfl⟩
  rw [if_neg h3] at hR
  have h3' : l.getD e.toNat 0 = 0 := Classical.not_not.1 h3
  have hl0 : ((0 : Int)) < (([0] : Txt).length : Int) := by decide
  repeat first
    | (apply WL.q; exact rfl; exact rfl; exact rfl; (first | (apply EvW.move; exact rfl) | (apply EvW.assign; exact rfl) | (apply EvW.extract; exact rfl; exact rfl)))
    | refine WC.seq ?_ | refine WL.nil ?_ | refine WE.next ?_
  repeat refine WC.seq ?_
  apply WC.drawQ Try.mixed
  · (focus ((repeat (first | exact Restr.nil | (apply Restr.keep; exact rfl; exact rfl) | (apply Restr.drop; exact rfl))); done))
  · exact rfl
  · decide +kernel
  · decide +kernel
  · repeat first
      | exact Draws.nil
      | (apply Draws.skip; exact rfl; exact rfl)
      | (apply Draws.q0; exact rfl
         (first | (apply EvW.move; exact rfl) | (apply EvW.lenS; exact rfl; exact UndC.eq) | (apply EvW.cmpF; exact rfl; exact rfl; exact rfl; omega) | (apply EvW.cmp; exact rfl; exact rfl; exact rfl) | (apply EvW.pickF; exact rfl; exact rfl) | (apply EvW.index; exact rfl; exact rfl; exact UndC.eq; omega; omega)))
  apply WE.writ
  · (focus ((repeat (first | exact Writ.nil | apply Writ.some | apply Writ.none)); done))
  have h00 : (((0 : UInt8).toNat : Nat) : Int) = ((([0] : Txt).getD (Int.toNat 0) 0).toNat : Int) := rfl
  rw [h3']
  repeat first
    | (apply WL.q; exact rfl; exact rfl; exact rfl; (first | (apply EvW.move; exact rfl)))
    | refine WC.seq ?_ | refine WC.region ?_ | refine WE.next ?_ | refine WC.skip ?_ | refine WC.condF rfl ?_
  try refine WL.wanted rfl rfl rfl ?_
  apply WL.callA ([])
  · exact rfl
  · exact rfl
  · exact fun w => Try.call74 _ w
  · (focus ((repeat constructor); done))
  · exact fun w1 S1 hS1 hs1 ho1 => read_spec x w1 S1 hS1
  rintro _ _ ⟨b, rfl, rfl⟩
  first | refine WL.app4 ?_ | refine WL.app3 ?_ | refine WL.app2 ?_ | refine WL.app1 ?_ | refine WL.app0 ?_ | skip
  repeat first
    | (apply WL.q; exact rfl; exact rfl; exact rfl; (first | (apply EvW.move; exact rfl) | (apply EvW.assign; exact rfl)))
    | refine WC.seq ?_ | refine WC.region ?_ | refine WL.nil ?_ | refine WE.next ?_
  by_cases h5 : x.length < 5
  · rw [hR, if_pos h5]
    obtain ⟨m1, hm1⟩ : ∃ m1, (PR.mk 0 x).num 1 = m1 := ⟨_, rfl⟩
    have hm1e : (m1.2.e = 1 ∨ m1.2.s.length < 4) ∧ (m1.2.e = 0 ∨ m1.2.e = 1) ∧ m1.2.s.length ≤ x.length := by
      rw [← hm1]
      by_cases hx1 : x.length < 1
      · rw [num_bad _ 1 (.inr hx1) (.inl rfl)]; exact ⟨.inl rfl, .inr rfl, Nat.le_refl _⟩
      · rw [num_good _ 1 rfl (by show 1 ≤ x.length; omega)]
        refine ⟨.inr ?_, .inl rfl, ?_⟩
        · show (x.drop 1).length < 4; rw [List.length_drop]; omega
        · show (x.drop 1).length ≤ _; rw [List.length_drop]; omega
    try refine WL.wanted rfl rfl rfl ?_
    apply WL.callA ([.blk b #[i64 (PR.mk 0 x).e, str (PR.mk 0 x).s] 155])
    · exact rfl
    · exact rfl
    · exact fun w => Try.call75 _ w
    · (focus ((repeat constructor); done))
    · exact fun w1 S1 hS1 hs1 ho1 => rbyte_spec b (PR.mk 0 x) w1 S1 hS1 (by show x.length ≤ _; omega)
    rintro _ _ ⟨rfl, rfl⟩
    first | refine WL.app4 ?_ | refine WL.app3 ?_ | refine WL.app2 ?_ | refine WL.app1 ?_ | refine WL.app0 ?_ | skip
    rw [hm1]
    repeat first
      | (apply WL.q; exact rfl; exact rfl; exact rfl; (first | (apply EvW.move; exact rfl)))
    try refine WL.wanted rfl rfl rfl ?_
    apply WL.callA ([.blk b #[i64 (m1.2).e, str (m1.2).s] 155])
    · exact rfl
    · exact rfl
    · exact fun w => Try.call76 _ w
    · (focus ((repeat constructor); done))
    · exact fun w1 S1 hS1 hs1 ho1 => rlong_spec b m1.2 w1 S1 hS1 (by omega)
    rintro _ _ ⟨rfl, rfl⟩
    first | refine WL.app4 ?_ | refine WL.app3 ?_ | refine WL.app2 ?_ | refine WL.app1 ?_ | refine WL.app0 ?_ | skip
    rw [num_bad m1.2 4 hm1e.1 hm1e.2.1]
    dsimp only
    repeat first
      | (apply WL.q; exact rfl; exact rfl; exact rfl; (first | (apply EvW.build; exact PlC.eq; exact ZvC.eq; exact rfl; exact rfl; (focus ((repeat (first | exact Fills.nil | (apply Fills.cons; exact rfl; (first | assumption | exact rfl); exact rfl) | exact SetMany.nil | apply SetMany.cons | apply SetMany.succ)); done)))))
    try refine WL.wanted rfl rfl rfl ?_
    (apply WL.alloc; exact rfl; exact ZvC.eq; exact rfl; intro xb)
    repeat first
      | (apply WL.q; exact rfl; exact rfl; exact rfl; (first | (apply EvW.move; exact rfl)))
      | refine WC.seq ?_ | refine WC.region ?_ | refine WL.nil ?_ | refine WE.next ?_ | (apply WL.store; exact rfl; exact rfl; (first | assumption | exact rfl); exact SzC.eq; (first | assumption | exact rfl); (focus ((repeat constructor); done)))
    try refine WL.wanted rfl rfl rfl ?_
    apply WL.callA ([.blk b #[i64 (PR.mk 1 m1.2.s).e, str (PR.mk 1 m1.2.s).s] 155])
    · exact rfl
    · exact rfl
    · exact fun w => Try.call77 _ w
    · (focus ((repeat constructor); done))
    · exact fun w1 S1 hS1 hs1 ho1 => rend_spec b (PR.mk 1 m1.2.s) w1 S1 hS1
    rintro _ _ ⟨rfl, rfl⟩
    first | refine WL.app4 ?_ | refine WL.app3 ?_ | refine WL.app2 ?_ | refine WL.app1 ?_ | refine WL.app0 ?_ | skip
    rw [show (PR.mk 1 m1.2.s).fin = 1 from rfl]
    repeat first
      | (apply WL.q; exact rfl; exact rfl; exact rfl; (first | (apply EvW.assign; exact rfl) | (apply EvW.cmpT; exact rfl; exact rfl; exact rfl; omega) | (apply EvW.build; exact PlC.eq; exact ZvC.eq; exact rfl; exact rfl; (focus ((repeat (first | exact Fills.nil | (apply Fills.cons; exact rfl; (first | assumption | exact rfl); exact rfl) | exact SetMany.nil | apply SetMany.cons | apply SetMany.succ)); done)))))
      | refine WC.seq ?_ | refine WC.region ?_ | refine WL.nil ?_ | refine WE.next ?_ | refine WC.condT rfl ?_ | refine WC.ret ?_ | refine WE.passRet ?_ | (apply WL.store; exact rfl; exact rfl; (first | assumption | exact rfl); exact SzC.eq; (first | assumption | exact rfl); (focus ((repeat constructor); done)))
    (apply WE.retC3 (A' := []); exact rfl; exact rfl; exact rfl; exact rfl; (focus ((repeat constructor); done)); exact AggC.eq; exact SzC.eq; exact fun _ h => h.keep (by repeat constructor))
    exact ⟨rfl, rfl⟩
  rw [if_neg h5] at hR
  rw [hR]
  have hg1 : (PR.mk 0 x).num 1 = (numOf (x.take 1), PR.mk 0 (x.drop 1)) := num_good _ 1 rfl (by show 1 ≤ x.length; omega)
  have hg2 : (PR.mk 0 (x.drop 1)).num 4 = (numOf ((x.drop 1).take 4), PR.mk 0 ((x.drop 1).drop 4)) := num_good _ 4 rfl (by show 4 ≤ (x.drop 1).length; rw [List.length_drop]; omega)
  try refine WL.wanted rfl rfl rfl ?_
  apply WL.callA ([.blk b #[i64 (PR.mk 0 x).e, str (PR.mk 0 x).s] 155])
  · exact rfl
  · exact rfl
  · exact fun w => Try.call75 _ w
  · (focus ((repeat constructor); done))
  · exact fun w1 S1 hS1 hs1 ho1 => rbyte_spec b (PR.mk 0 x) w1 S1 hS1 (by show x.length ≤ _; omega)
  rintro _ _ ⟨rfl, rfl⟩
  first | refine WL.app4 ?_ | refine WL.app3 ?_ | refine WL.app2 ?_ | refine WL.app1 ?_ | refine WL.app0 ?_ | skip
  rw [hg1]
  dsimp only
  repeat first
    | (apply WL.q; exact rfl; exact rfl; exact rfl; (first | (apply EvW.move; exact rfl)))
  try refine WL.wanted rfl rfl rfl ?_
  apply WL.callA ([.blk b #[i64 (PR.mk 0 (x.drop 1)).e, str (PR.mk 0 (x.drop 1)).s] 155])
  · exact rfl
  · exact rfl
  · exact fun w => Try.call76 _ w
  · (focus ((repeat constructor); done))
  · exact fun w1 S1 hS1 hs1 ho1 => rlong_spec b (PR.mk 0 (x.drop 1)) w1 S1 hS1 (by show (x.drop 1).length ≤ _; rw [List.length_drop]; omega)
  rintro _ _ ⟨rfl, rfl⟩
  first | refine WL.app4 ?_ | refine WL.app3 ?_ | refine WL.app2 ?_ | refine WL.app1 ?_ | refine WL.app0 ?_ | skip
  rw [hg2]
  dsimp only
  repeat first
    | (apply WL.q; exact rfl; exact rfl; exact rfl; (first | (apply EvW.build; exact PlC.eq; exact ZvC.eq; exact rfl; exact rfl; (focus ((repeat (first | exact Fills.nil | (apply Fills.cons; exact rfl; (first | assumption | exact rfl); exact rfl) | exact SetMany.nil | apply SetMany.cons | apply SetMany.succ)); done)))))
  try refine WL.wanted rfl rfl rfl ?_
  (apply WL.alloc; exact rfl; exact ZvC.eq; exact rfl; intro xb)
  repeat first
    | (apply WL.q; exact rfl; exact rfl; exact rfl; (first | (apply EvW.move; exact rfl)))
    | refine WC.seq ?_ | refine WC.region ?_ | refine WL.nil ?_ | refine WE.next ?_ | (apply WL.store; exact rfl; exact rfl; (first | assumption | exact rfl); exact SzC.eq; (first | assumption | exact rfl); (focus ((repeat constructor); done)))
  try refine WL.wanted rfl rfl rfl ?_
  apply WL.callA ([.blk b #[i64 (PR.mk 0 ((x.drop 1).drop 4)).e, str (PR.mk 0 ((x.drop 1).drop 4)).s] 155])
  · exact rfl
  · exact rfl
  · exact fun w => Try.call77 _ w
  · (focus ((repeat constructor); done))
  · exact fun w1 S1 hS1 hs1 ho1 => rend_spec b (PR.mk 0 ((x.drop 1).drop 4)) w1 S1 hS1
  rintro _ _ ⟨rfl, rfl⟩
  first | refine WL.app4 ?_ | refine WL.app3 ?_ | refine WL.app2 ?_ | refine WL.app1 ?_ | refine WL.app0 ?_ | skip
  have hfin : ¬ (PR.mk 0 ((x.drop 1).drop 4)).fin = 1 := by unfold PR.fin; split <;> simp
  repeat first
    | (apply WL.q; exact rfl; exact rfl; exact rfl; (first | (apply EvW.move; exact rfl) | (apply EvW.assign; exact rfl) | (apply EvW.fieldAddr0; exact rfl; exact FldC.eq) | (apply EvW.cmpF; exact rfl; exact rfl; exact rfl; omega) | (apply EvW.arN; exact rfl; exact rfl; exact rfl; refine i64_in ?_ ?_ <;> omega) | (apply EvW.sliceS_lo; exact rfl; exact UndC.eq; exact rfl; omega; omega) | (apply EvW.loadAgg; exact rfl; exact AggC.eq; exact SzC.eq; (focus ((repeat constructor); done)); (focus ((repeat (first | exact SubL.nil | apply SubL.cons | apply SubL.succ)); done)))))
    | refine WC.seq ?_ | refine WC.region ?_ | refine WL.nil ?_ | refine WE.next ?_ | refine WC.skip ?_ | refine WC.condF rfl ?_ | refine WC.ret ?_ | (apply WL.store; exact rfl; exact rfl; (first | assumption | exact rfl); exact SzC.eq; (first | assumption | exact rfl); (focus ((repeat constructor); done)))
  rw [show e + 1 = ((e.toNat + 1 : Nat) : Int) by omega]
  (apply WE.retC3 (A' := []); exact rfl; exact rfl; exact rfl; exact rfl; (focus ((repeat constructor); done)); exact AggC.eq; exact SzC.eq; exact fun _ h => h.keep (by repeat constructor))
  exact ⟨rfl, rfl⟩
end Go.Proofs.Ytknclcjmfgdphaa
namespace Go.Proofs.Ytknclcjmfgdphaa
open Go.RowKit Go.BK
/-- A record with its number. -/
structure RecN where
  n : Nat
  kind : Int
  text : Txt
instance : Inhabited RecN := ⟨⟨0, 0, []⟩⟩
def recC (r : RecN) : List Value := [i64 r.n, i64 r.kind, str r.text]
def numd : Nat → List Rec → List RecN
  | _, [] => []
  | f, r :: rs => ⟨f, r.kind, r.text⟩ :: numd (f + 1) rs
theorem numd_len : ∀ (rs : List Rec) (f : Nat), (numd f rs).length = rs.length
  | [], _ => rfl
  | r :: rs, f => by show (numd (f + 1) rs).length + 1 = _; rw [numd_len rs (f + 1)]; rfl
theorem numd_append : ∀ (a b : List Rec) (f : Nat), numd f (a ++ b) = numd f a ++ numd (f + a.length) b
  | [], b, f => rfl
  | r :: a, b, f => by
    show _ :: numd (f + 1) (a ++ b) = _ :: (numd (f + 1) a ++ _)
    rw [numd_append a b (f + 1), List.length_cons, show f + 1 + a.length = f + (a.length + 1) by omega]
theorem flat_recN (l : List RecN) : (l.flatMap recC).length = l.length * 3 := by
  induction l with
  | nil => rfl
  | cons t l ih => rw [List.flatMap_cons, List.length_append, ih, List.length_cons]; show 3 + _ = _; omega
theorem all_recN (l : List RecN) : (l.flatMap recC).all (·.oneCell') = true := by
  induction l with
  | nil => rfl
  | cons t l ih => rw [List.flatMap_cons, List.all_append, ih]; rfl
theorem scan_no (p : Int) (P : Txt) (w : World) (S : BSet) (hS : (sepL []).sat S w) (hl : P.length ≤ 4096) (h : readF P 0 = none) :
    Tri Try.prog 32 #[i64 p, str P] w S fun u A => u = .tuple #[.agg #[i64 0, i64 0, i64 0, str [], .bool false, .slice none 0 0], .bool false] ∧ A = [] := by
  refine Tri.enter (l := [i64 p, str P]) Try.func32 rfl Try.ntmps32 rfl [(0, i64 p), (1, str P)] (subA rfl) hS ?_
  repeat first
    | refine WC.seq ?_ | refine WC.region ?_
  try refine WL.wanted rfl rfl rfl ?_
  (apply WL.alloc; exact rfl; exact ZvC.eq; exact rfl; intro rb)
  repeat first
    | (apply WL.q; exact rfl; exact rfl; exact rfl; (first | (apply EvW.move; exact rfl) | (apply EvW.assign; exact rfl)))
    | refine WC.seq ?_ | refine WC.region ?_ | refine WL.nil ?_ | refine WE.next ?_
  try refine WL.wanted rfl rfl rfl ?_
  apply WL.callA ([])
  · exact rfl
  · exact rfl
  · exact fun w => Try.call58 _ w
  · (focus ((repeat constructor); done))
  · exact fun w1 S1 hS1 hs1 ho1 => jread_spec P 0 w1 S1 hS1 (by omega)
  rintro _ _ ⟨rfl, rfl⟩
  first | refine WL.app4 ?_ | refine WL.app3 ?_ | refine WL.app2 ?_ | refine WL.app1 ?_ | refine WL.app0 ?_ | skip
  rw [h]
  dsimp only [readV]
  repeat first
    | (apply WL.q; exact rfl; exact rfl; exact rfl; (first | (apply EvW.move; exact rfl) | (apply EvW.extract; exact rfl; exact rfl)))
  try refine WL.wanted rfl rfl rfl ?_
  (apply WL.alloc; exact rfl; exact ZvC.eq; exact rfl; intro hb)
  repeat first
    | (apply WL.q; exact rfl; exact rfl; exact rfl; (first | (apply EvW.move; exact rfl) | (apply EvW.assign; exact rfl) | (apply EvW.pickT; exact rfl; exact rfl) | (apply EvW.notF; exact rfl) | (apply EvW.build; exact PlC.eq; exact ZvC.eq; exact rfl; exact rfl; (focus ((repeat (first | exact Fills.nil | (apply Fills.cons; exact rfl; (first | assumption | exact rfl); exact rfl) | exact SetMany.nil | apply SetMany.cons | apply SetMany.succ)); done)))))
    | refine WC.seq ?_ | refine WC.region ?_ | refine WL.nil ?_ | refine WE.next ?_ | refine WC.condT rfl ?_ | refine WC.ret ?_ | refine WE.passRet ?_ | refine WL.unwanted rfl rfl rfl rfl ?_ | refine WL.unwantedU rfl rfl rfl rfl ?_ | (apply WL.store; exact rfl; exact rfl; (first | assumption | exact rfl); exact SzC.eq; (first | assumption | exact rfl); (focus ((repeat constructor); done)))
  (apply WE.retC2 (A' := []); exact rfl; exact rfl; exact rfl; (focus ((repeat constructor); done)); exact AggC.eq; exact SzC.eq; exact fun _ h => h.keep (by repeat constructor))
  exact ⟨rfl, rfl⟩
set_option maxHeartbeats 1000000 in
theorem scan_yes (p : Int) (P : Txt) (f : Nat) (st : St8) (rs : List Rec) (w : World) (S : BSet) (hS : (sepL []).sat S w) (h : LeafOn P f st rs) :
    Tri Try.prog 32 #[i64 p, str P] w S fun u A => ∃ v, u = .tuple #[.agg #[i64 p, i64 f, i64 rs.length, str st.1, .bool st.2, v], .bool true] ∧ A = [.own 34 3 (v) (numd f rs).length ((numd f rs).flatMap recC)] := by
  refine Tri.enter (l := [i64 p, str P]) Try.func32 rfl Try.ntmps32 rfl [(0, i64 p), (1, str P)] (subA rfl) hS ?_
  have hlh := leaf_head h
  have hPl := h.len
  have hnum := h.num
  obtain ⟨sx, sb⟩ := st
  repeat first
    | refine WC.seq ?_ | refine WC.region ?_
  try refine WL.wanted rfl rfl rfl ?_
  (apply WL.alloc; exact rfl; exact ZvC.eq; exact rfl; intro rb)
  repeat first
    | (apply WL.q; exact rfl; exact rfl; exact rfl; (first | (apply EvW.move; exact rfl) | (apply EvW.assign; exact rfl)))
    | refine WC.seq ?_ | refine WC.region ?_ | refine WL.nil ?_ | refine WE.next ?_
  try refine WL.wanted rfl rfl rfl ?_
  apply WL.callA ([])
  · exact rfl
  · exact rfl
  · exact fun w => Try.call58 _ w
  · (focus ((repeat constructor); done))
  · exact fun w1 S1 hS1 hs1 ho1 => jread_spec P 0 w1 S1 hS1 (by omega)
  rintro _ _ ⟨rfl, rfl⟩
  first | refine WL.app4 ?_ | refine WL.app3 ?_ | refine WL.app2 ?_ | refine WL.app1 ?_ | refine WL.app0 ?_ | skip
  rw [hlh]
  cases sb with
  | true =>
    dsimp only [readV]
    repeat first
      | (apply WL.q; exact rfl; exact rfl; exact rfl; (first | (apply EvW.move; exact rfl) | (apply EvW.extract; exact rfl; exact rfl)))
    try refine WL.wanted rfl rfl rfl ?_
    (apply WL.alloc; exact rfl; exact ZvC.eq; exact rfl; intro hb)
    repeat first
      | (apply WL.q; exact rfl; exact rfl; exact rfl; (first | (apply EvW.move; exact rfl) | (apply EvW.assign; exact rfl) | (apply EvW.fieldAddr0; exact rfl; exact FldC.eq) | (apply EvW.load; exact rfl; exact ScalC.eq; (focus ((repeat constructor); done)); exact rfl) | (apply EvW.cmp; exact rfl; exact rfl; exact rfl) | (apply EvW.pickF; exact rfl; exact rfl) | (apply EvW.notT; exact rfl) | (apply EvW.build; exact PlC.eq; exact ZvC.eq; exact rfl; exact rfl; (focus ((repeat (first | exact Fills.nil | (apply Fills.cons; exact rfl; (first | assumption | exact rfl); exact rfl) | exact SetMany.nil | apply SetMany.cons | apply SetMany.succ)); done)))))
      | refine WC.seq ?_ | refine WC.region ?_ | refine WL.nil ?_ | refine WE.next ?_ | refine WC.skip ?_ | refine WC.condF rfl ?_ | refine WL.wanted rfl rfl rfl ?_ | refine WL.unwanted rfl rfl rfl rfl ?_ | (apply WL.store; exact rfl; exact rfl; (first | assumption | exact rfl); exact SzC.eq; (first | assumption | exact rfl); (focus ((repeat constructor); done)))
    try refine WL.wanted rfl rfl rfl ?_
    (apply WL.alloc; exact rfl; exact ZvC.eq; exact rfl; intro fb)
    repeat first
      | refine WL.nil ?_ | refine WE.next ?_ | refine WC.block ?_ | (apply WL.store; exact rfl; exact rfl; (first | assumption | exact rfl); exact SzC.eq; (first | assumption | exact rfl); (focus ((repeat constructor); done)))
    refine WC.conv (fun _ hs => hs.ownNil (e := 34) (sz := 3)) ?_
    refine WC.loopK (σ := Nat × Nat × Value) [1, 4, 9] (fun s => [(7, i64 s.2.1)]) (fun s => [.blk rb #[i64 0, i64 0, i64 0, str [], .bool false, .slice none 0 0] 70, .blk fb #[i64 p, i64 f, i64 s.1, str sx, .bool true, s.2.2] 70, .own 34 3 (s.2.2) (numd f (rs.take s.1)).length ((numd f (rs.take s.1)).flatMap recC)]) (fun s => s.1 ≤ rs.length ∧ s.2.1 = (cont f (sx, true) (rs.take s.1)).length) (fun s => rs.length - s.1) (0, (headJ f (sx, true)).length, .slice none 0 0) (by (focus ((repeat (first | exact Pick.nil | (apply Pick.cons; exact rfl))); done))) (by (focus ((repeat (first | exact trivial | (refine ⟨rfl, ?_⟩))); done))) (fun _ h => h.keep (by repeat constructor)) ⟨Nat.zero_le _, by rw [List.take_zero, cont_nil]⟩ (fun s hs => ?_)
    obtain ⟨i, at', v⟩ := s
    simp only [List.cons_append, List.nil_append] at hs ⊢
    obtain ⟨hi0, hat⟩ := hs
    have hnl : (numd f (rs.take i)).length = i := by rw [numd_len, List.length_take]; omega
    (first | refine WL.slOwn (v := v) (by repeat constructor) ?_ | refine WC.slOwn (v := v) (by repeat constructor) ?_)
    intro hc_v ho_v
    by_cases hi : i < rs.length
    · have hrd := leaf_at h hi
      have hrk := (h.okr _ (rec_at hi)).1
      rw [← hat] at hrd
      obtain ⟨r, hr⟩ : ∃ r, rs.getD i default = r := ⟨_, rfl⟩
      rw [hr] at hrd hrk
      repeat first
        | (apply WL.q; exact rfl; exact rfl; exact rfl; (first | (apply EvW.move; exact rfl)))
        | refine WC.seq ?_ | refine WC.region ?_ | refine WC.block ?_
      try refine WL.wanted rfl rfl rfl ?_
      apply WL.callA ([])
      · exact rfl
      · exact rfl
      · exact fun w => Try.call58 _ w
      · (focus ((repeat constructor); done))
      · exact fun w1 S1 hS1 hs1 ho1 => jread_spec P at' w1 S1 hS1 (by omega)
      rintro _ _ ⟨rfl, rfl⟩
      first | refine WL.app4 ?_ | refine WL.app3 ?_ | refine WL.app2 ?_ | refine WL.app1 ?_ | refine WL.app0 ?_ | skip
      rw [hrd]
      dsimp only [readV]
      repeat first
        | (apply WL.q; exact rfl; exact rfl; exact rfl; (first | (apply EvW.move; exact rfl) | (apply EvW.extract; exact rfl; exact rfl)))
      try refine WL.wanted rfl rfl rfl ?_
      (apply WL.alloc; exact rfl; exact ZvC.eq; exact rfl; intro xb)
      have hst : (numd f (rs.take i)).flatMap recC ++ [i64 ((f + i : Nat) : Int), i64 r.kind, str r.text] = (numd f (rs.take (i + 1))).flatMap recC := by
        rw [rec_take hi, numd_append, List.flatMap_append, hr, List.length_take, Nat.min_eq_left hi0]; rfl
      have hnl2 : (numd f (rs.take (i + 1))).length = i + 1 := by rw [numd_len, List.length_take]; omega
      rcases hrk with hk | hk
      · rw [hk] at hst ⊢
        repeat first
          | (apply WL.q; exact rfl; exact rfl; exact rfl; (first | (apply EvW.move; exact rfl) | (apply EvW.assign; exact rfl) | (apply EvW.fieldAddr0; exact rfl; exact FldC.eq) | (apply EvW.load; exact rfl; exact ScalC.eq; (focus ((repeat constructor); done)); exact rfl) | (apply EvW.cmpF; exact rfl; exact rfl; exact rfl; omega) | (apply EvW.arN; exact rfl; exact rfl; exact rfl; refine i64_in ?_ ?_ <;> omega) | (apply EvW.pickF; exact rfl; exact rfl) | (apply EvW.notT; exact rfl) | (apply EvW.loadAgg; exact rfl; exact AggC.eq; exact SzC.eq; (focus ((repeat constructor); done)); (focus ((repeat (first | exact SubL.nil | apply SubL.cons | apply SubL.succ)); done)))))
          | refine WC.seq ?_ | refine WC.region ?_ | refine WL.nil ?_ | refine WE.next ?_ | refine WC.skip ?_ | refine WC.condF rfl ?_ | refine WL.wanted rfl rfl rfl ?_ | refine WL.unwanted rfl rfl rfl rfl ?_ | (apply WL.store; exact rfl; exact rfl; (first | assumption | exact rfl); exact SzC.eq; (first | assumption | exact rfl); (focus ((repeat constructor); done)))
        try refine WL.wanted rfl rfl rfl ?_
        (apply WL.buildSlice; exact rfl; exact UndC.eq; exact SzC.eq; exact ZvC.eq; exact rfl; exact rfl; exact rfl; ((focus ((repeat (first | exact Flat.nil | (apply Flat.one; (first | exact rfl | assumption)) | (apply Flat.cons; exact rfl; exact rfl))); done))); exact rfl; exact rfl; intro k0)
        try refine WL.wanted rfl rfl rfl ?_
        (apply WL.append; exact rfl; exact rfl; exact rfl; exact UndC.eq; exact SzC.eq; exact ByC.eq; exact ZvC.eq; exact rfl; (first | exact notInt_sl UndC.eq | exact notInt_st UndC.eq); exact rfl; (focus ((repeat constructor); done)))
        · exact adds_blk .head rfl rfl
        · (omega)
        intro x1
        refine WL.ownEq (cs' := (numd f (rs.take (i + 1))).flatMap recC) (len' := (numd f (rs.take (i + 1))).length) .head (by rw [hnl, hnl2]) hst ?_
        (first | refine WL.slOwn (v := x1) (by repeat constructor) ?_ | refine WC.slOwn (v := x1) (by repeat constructor) ?_)
        intro hc_x1 ho_x1
        repeat first
          | (apply WL.q; exact rfl; exact rfl; exact rfl; (first | (apply EvW.move; exact rfl) | (apply EvW.assign; exact rfl) | (apply EvW.fieldAddr0; exact rfl; exact FldC.eq) | (apply EvW.load; exact rfl; exact ScalC.eq; (focus ((repeat constructor); done)); exact rfl) | (apply EvW.arN; exact rfl; exact rfl; exact rfl; refine i64_in ?_ ?_ <;> omega)))
          | refine WC.seq ?_ | refine WC.region ?_ | refine WL.nil ?_ | refine WE.next ?_ | refine WE.out ?_ | (apply WL.store; exact rfl; exact rfl; (first | assumption | exact rfl); exact SzC.eq; (first | assumption | exact rfl); (focus ((repeat constructor); done)))
        exact WE.again (s := (i, at', v)) ((i + 1, (cont f (sx, true) (rs.take (i + 1))).length, x1)) ⟨by simp only []; omega, rfl⟩ (by (focus ((repeat (first | exact trivial | (refine ⟨rfl, ?_⟩))); done))) (fun _ h => (by (try simp only []); exact h.keep (by repeat constructor))) (by (try simp only []); omega)
      · rw [hk] at hst ⊢
        repeat first
          | (apply WL.q; exact rfl; exact rfl; exact rfl; (first | (apply EvW.move; exact rfl) | (apply EvW.assign; exact rfl) | (apply EvW.fieldAddr0; exact rfl; exact FldC.eq) | (apply EvW.load; exact rfl; exact ScalC.eq; (focus ((repeat constructor); done)); exact rfl) | (apply EvW.cmpT; exact rfl; exact rfl; exact rfl; omega) | (apply EvW.cmpF; exact rfl; exact rfl; exact rfl; omega) | (apply EvW.arN; exact rfl; exact rfl; exact rfl; refine i64_in ?_ ?_ <;> omega) | (apply EvW.pickT; exact rfl; exact rfl) | (apply EvW.pickF; exact rfl; exact rfl) | (apply EvW.notT; exact rfl) | (apply EvW.loadAgg; exact rfl; exact AggC.eq; exact SzC.eq; (focus ((repeat constructor); done)); (focus ((repeat (first | exact SubL.nil | apply SubL.cons | apply SubL.succ)); done)))))
          | refine WC.seq ?_ | refine WC.region ?_ | refine WL.nil ?_ | refine WE.next ?_ | refine WC.skip ?_ | refine WC.condF rfl ?_ | refine WL.wanted rfl rfl rfl ?_ | (apply WL.store; exact rfl; exact rfl; (first | assumption | exact rfl); exact SzC.eq; (first | assumption | exact rfl); (focus ((repeat constructor); done)))
        try refine WL.wanted rfl rfl rfl ?_
        (apply WL.buildSlice; exact rfl; exact UndC.eq; exact SzC.eq; exact ZvC.eq; exact rfl; exact rfl; exact rfl; ((focus ((repeat (first | exact Flat.nil | (apply Flat.one; (first | exact rfl | assumption)) | (apply Flat.cons; exact rfl; exact rfl))); done))); exact rfl; exact rfl; intro k0)
        try refine WL.wanted rfl rfl rfl ?_
        (apply WL.append; exact rfl; exact rfl; exact rfl; exact UndC.eq; exact SzC.eq; exact ByC.eq; exact ZvC.eq; exact rfl; (first | exact notInt_sl UndC.eq | exact notInt_st UndC.eq); exact rfl; (focus ((repeat constructor); done)))
        · exact adds_blk .head rfl rfl
        · (omega)
        intro x1
        refine WL.ownEq (cs' := (numd f (rs.take (i + 1))).flatMap recC) (len' := (numd f (rs.take (i + 1))).length) .head (by rw [hnl, hnl2]) hst ?_
        (first | refine WL.slOwn (v := x1) (by repeat constructor) ?_ | refine WC.slOwn (v := x1) (by repeat constructor) ?_)
        intro hc_x1 ho_x1
        repeat first
          | (apply WL.q; exact rfl; exact rfl; exact rfl; (first | (apply EvW.move; exact rfl) | (apply EvW.assign; exact rfl) | (apply EvW.fieldAddr0; exact rfl; exact FldC.eq) | (apply EvW.load; exact rfl; exact ScalC.eq; (focus ((repeat constructor); done)); exact rfl) | (apply EvW.arN; exact rfl; exact rfl; exact rfl; refine i64_in ?_ ?_ <;> omega)))
          | refine WC.seq ?_ | refine WC.region ?_ | refine WL.nil ?_ | refine WE.next ?_ | refine WE.out ?_ | (apply WL.store; exact rfl; exact rfl; (first | assumption | exact rfl); exact SzC.eq; (first | assumption | exact rfl); (focus ((repeat constructor); done)))
        exact WE.again (s := (i, at', v)) ((i + 1, (cont f (sx, true) (rs.take (i + 1))).length, x1)) ⟨by simp only []; omega, rfl⟩ (by (focus ((repeat (first | exact trivial | (refine ⟨rfl, ?_⟩))); done))) (fun _ h => (by (try simp only []); exact h.keep (by repeat constructor))) (by (try simp only []); omega)
    · obtain rfl : i = rs.length := by omega
      rw [List.take_length] at hat hnl ⊢
      repeat first
        | (apply WL.q; exact rfl; exact rfl; exact rfl; (first | (apply EvW.move; exact rfl)))
        | refine WC.seq ?_ | refine WC.region ?_ | refine WC.block ?_
      try refine WL.wanted rfl rfl rfl ?_
      apply WL.callA ([])
      · exact rfl
      · exact rfl
      · exact fun w => Try.call58 _ w
      · (focus ((repeat constructor); done))
      · exact fun w1 S1 hS1 hs1 ho1 => jread_spec P at' w1 S1 hS1 (by omega)
      rintro _ _ ⟨rfl, rfl⟩
      first | refine WL.app4 ?_ | refine WL.app3 ?_ | refine WL.app2 ?_ | refine WL.app1 ?_ | refine WL.app0 ?_ | skip
      rw [hat, h.ends]
      dsimp only [readV]
      repeat first
        | (apply WL.q; exact rfl; exact rfl; exact rfl; (first | (apply EvW.move; exact rfl) | (apply EvW.extract; exact rfl; exact rfl)))
      try refine WL.wanted rfl rfl rfl ?_
      (apply WL.alloc; exact rfl; exact ZvC.eq; exact rfl; intro xb)
      repeat first
        | (apply WL.q; exact rfl; exact rfl; exact rfl; (first | (apply EvW.move; exact rfl) | (apply EvW.assign; exact rfl) | (apply EvW.pickT; exact rfl; exact rfl) | (apply EvW.notF; exact rfl) | (apply EvW.loadAgg; exact rfl; exact AggC.eq; exact SzC.eq; (focus ((repeat constructor); done)); (focus ((repeat (first | exact SubL.nil | apply SubL.cons | apply SubL.succ)); done)))))
        | refine WC.seq ?_ | refine WC.region ?_ | refine WL.nil ?_ | refine WE.next ?_ | refine WC.condT rfl ?_ | refine WC.ret ?_ | refine WE.passRet ?_ | refine WE.outRet ?_ | refine WL.unwanted rfl rfl rfl rfl ?_ | refine WL.unwantedU rfl rfl rfl rfl ?_ | (apply WL.store; exact rfl; exact rfl; (first | assumption | exact rfl); exact SzC.eq; (first | assumption | exact rfl); (focus ((repeat constructor); done)))
      (apply WE.retC2 (A' := [.own 34 3 (v) (numd f rs).length ((numd f rs).flatMap recC)]); exact rfl; exact rfl; exact rfl; (focus ((repeat constructor); done)); exact AggC.eq; exact SzC.eq; exact fun _ h => h.keep (by repeat constructor))
      exact ⟨v, rfl, rfl⟩
  | false =>
    dsimp only [readV]
    repeat first
      | (apply WL.q; exact rfl; exact rfl; exact rfl; (first | (apply EvW.move; exact rfl) | (apply EvW.extract; exact rfl; exact rfl)))
    try refine WL.wanted rfl rfl rfl ?_
    (apply WL.alloc; exact rfl; exact ZvC.eq; exact rfl; intro hb)
    repeat first
      | (apply WL.q; exact rfl; exact rfl; exact rfl; (first | (apply EvW.move; exact rfl) | (apply EvW.assign; exact rfl) | (apply EvW.fieldAddr0; exact rfl; exact FldC.eq) | (apply EvW.load; exact rfl; exact ScalC.eq; (focus ((repeat constructor); done)); exact rfl) | (apply EvW.cmp; exact rfl; exact rfl; exact rfl) | (apply EvW.pickT; exact rfl; exact rfl) | (apply EvW.pickF; exact rfl; exact rfl) | (apply EvW.notT; exact rfl) | (apply EvW.build; exact PlC.eq; exact ZvC.eq; exact rfl; exact rfl; (focus ((repeat (first | exact Fills.nil | (apply Fills.cons; exact rfl; (first | assumption | exact rfl); exact rfl) | exact SetMany.nil | apply SetMany.cons | apply SetMany.succ)); done)))))
      | refine WC.seq ?_ | refine WC.region ?_ | refine WL.nil ?_ | refine WE.next ?_ | refine WC.skip ?_ | refine WC.condF rfl ?_ | refine WL.wanted rfl rfl rfl ?_ | (apply WL.store; exact rfl; exact rfl; (first | assumption | exact rfl); exact SzC.eq; (first | assumption | exact rfl); (focus ((repeat constructor); done)))
    try refine WL.wanted rfl rfl rfl ?_
    (apply WL.alloc; exact rfl; exact ZvC.eq; exact rfl; intro fb)
    repeat first
      | refine WL.nil ?_ | refine WE.next ?_ | refine WC.block ?_ | (apply WL.store; exact rfl; exact rfl; (first | assumption | exact rfl); exact SzC.eq; (first | assumption | exact rfl); (focus ((repeat constructor); done)))
    refine WC.conv (fun _ hs => hs.ownNil (e := 34) (sz := 3)) ?_
    refine WC.loopK (σ := Nat × Nat × Value) [1, 4, 9] (fun s => [(7, i64 s.2.1)]) (fun s => [.blk rb #[i64 0, i64 0, i64 0, str [], .bool false, .slice none 0 0] 70, .blk fb #[i64 p, i64 f, i64 s.1, str sx, .bool false, s.2.2] 70, .own 34 3 (s.2.2) (numd f (rs.take s.1)).length ((numd f (rs.take s.1)).flatMap recC)]) (fun s => s.1 ≤ rs.length ∧ s.2.1 = (cont f (sx, false) (rs.take s.1)).length) (fun s => rs.length - s.1) (0, (headJ f (sx, false)).length, .slice none 0 0) (by (focus ((repeat (first | exact Pick.nil | (apply Pick.cons; exact rfl))); done))) (by (focus ((repeat (first | exact trivial | (refine ⟨rfl, ?_⟩))); done))) (fun _ h => h.keep (by repeat constructor)) ⟨Nat.zero_le _, by rw [List.take_zero, cont_nil]⟩ (fun s hs => ?_)
    obtain ⟨i, at', v⟩ := s
    simp only [List.cons_append, List.nil_append] at hs ⊢
    obtain ⟨hi0, hat⟩ := hs
    have hnl : (numd f (rs.take i)).length = i := by rw [numd_len, List.length_take]; omega
    (first | refine WL.slOwn (v := v) (by repeat constructor) ?_ | refine WC.slOwn (v := v) (by repeat constructor) ?_)
    intro hc_v ho_v
    by_cases hi : i < rs.length
    · have hrd := leaf_at h hi
      have hrk := (h.okr _ (rec_at hi)).1
      rw [← hat] at hrd
      obtain ⟨r, hr⟩ : ∃ r, rs.getD i default = r := ⟨_, rfl⟩
      rw [hr] at hrd hrk
      repeat first
        | (apply WL.q; exact rfl; exact rfl; exact rfl; (first | (apply EvW.move; exact rfl)))
        | refine WC.seq ?_ | refine WC.region ?_ | refine WC.block ?_
      try refine WL.wanted rfl rfl rfl ?_
      apply WL.callA ([])
      · exact rfl
      · exact rfl
      · exact fun w => Try.call58 _ w
      · (focus ((repeat constructor); done))
      · exact fun w1 S1 hS1 hs1 ho1 => jread_spec P at' w1 S1 hS1 (by omega)
      rintro _ _ ⟨rfl, rfl⟩
      first | refine WL.app4 ?_ | refine WL.app3 ?_ | refine WL.app2 ?_ | refine WL.app1 ?_ | refine WL.app0 ?_ | skip
      rw [hrd]
      dsimp only [readV]
      repeat first
        | (apply WL.q; exact rfl; exact rfl; exact rfl; (first | (apply EvW.move; exact rfl) | (apply EvW.extract; exact rfl; exact rfl)))
      try refine WL.wanted rfl rfl rfl ?_
      (apply WL.alloc; exact rfl; exact ZvC.eq; exact rfl; intro xb)
      have hst : (numd f (rs.take i)).flatMap recC ++ [i64 ((f + i : Nat) : Int), i64 r.kind, str r.text] = (numd f (rs.take (i + 1))).flatMap recC := by
        rw [rec_take hi, numd_append, List.flatMap_append, hr, List.length_take, Nat.min_eq_left hi0]; rfl
      have hnl2 : (numd f (rs.take (i + 1))).length = i + 1 := by rw [numd_len, List.length_take]; omega
      rcases hrk with hk | hk
      · rw [hk] at hst ⊢
        repeat first
          | (apply WL.q; exact rfl; exact rfl; exact rfl; (first | (apply EvW.move; exact rfl) | (apply EvW.assign; exact rfl) | (apply EvW.fieldAddr0; exact rfl; exact FldC.eq) | (apply EvW.load; exact rfl; exact ScalC.eq; (focus ((repeat constructor); done)); exact rfl) | (apply EvW.cmpF; exact rfl; exact rfl; exact rfl; omega) | (apply EvW.arN; exact rfl; exact rfl; exact rfl; refine i64_in ?_ ?_ <;> omega) | (apply EvW.pickF; exact rfl; exact rfl) | (apply EvW.notT; exact rfl) | (apply EvW.loadAgg; exact rfl; exact AggC.eq; exact SzC.eq; (focus ((repeat constructor); done)); (focus ((repeat (first | exact SubL.nil | apply SubL.cons | apply SubL.succ)); done)))))
          | refine WC.seq ?_ | refine WC.region ?_ | refine WL.nil ?_ | refine WE.next ?_ | refine WC.skip ?_ | refine WC.condF rfl ?_ | refine WL.wanted rfl rfl rfl ?_ | refine WL.unwanted rfl rfl rfl rfl ?_ | (apply WL.store; exact rfl; exact rfl; (first | assumption | exact rfl); exact SzC.eq; (first | assumption | exact rfl); (focus ((repeat constructor); done)))
        try refine WL.wanted rfl rfl rfl ?_
        (apply WL.buildSlice; exact rfl; exact UndC.eq; exact SzC.eq; exact ZvC.eq; exact rfl; exact rfl; exact rfl; ((focus ((repeat (first | exact Flat.nil | (apply Flat.one; (first | exact rfl | assumption)) | (apply Flat.cons; exact rfl; exact rfl))); done))); exact rfl; exact rfl; intro k0)
        try refine WL.wanted rfl rfl rfl ?_
        (apply WL.append; exact rfl; exact rfl; exact rfl; exact UndC.eq; exact SzC.eq; exact ByC.eq; exact ZvC.eq; exact rfl; (first | exact notInt_sl UndC.eq | exact notInt_st UndC.eq); exact rfl; (focus ((repeat constructor); done)))
        · exact adds_blk .head rfl rfl
        · (omega)
        intro x1
        refine WL.ownEq (cs' := (numd f (rs.take (i + 1))).flatMap recC) (len' := (numd f (rs.take (i + 1))).length) .head (by rw [hnl, hnl2]) hst ?_
        (first | refine WL.slOwn (v := x1) (by repeat constructor) ?_ | refine WC.slOwn (v := x1) (by repeat constructor) ?_)
        intro hc_x1 ho_x1
        repeat first
          | (apply WL.q; exact rfl; exact rfl; exact rfl; (first | (apply EvW.move; exact rfl) | (apply EvW.assign; exact rfl) | (apply EvW.fieldAddr0; exact rfl; exact FldC.eq) | (apply EvW.load; exact rfl; exact ScalC.eq; (focus ((repeat constructor); done)); exact rfl) | (apply EvW.arN; exact rfl; exact rfl; exact rfl; refine i64_in ?_ ?_ <;> omega)))
          | refine WC.seq ?_ | refine WC.region ?_ | refine WL.nil ?_ | refine WE.next ?_ | refine WE.out ?_ | (apply WL.store; exact rfl; exact rfl; (first | assumption | exact rfl); exact SzC.eq; (first | assumption | exact rfl); (focus ((repeat constructor); done)))
        exact WE.again (s := (i, at', v)) ((i + 1, (cont f (sx, false) (rs.take (i + 1))).length, x1)) ⟨by simp only []; omega, rfl⟩ (by (focus ((repeat (first | exact trivial | (refine ⟨rfl, ?_⟩))); done))) (fun _ h => (by (try simp only []); exact h.keep (by repeat constructor))) (by (try simp only []); omega)
      · rw [hk] at hst ⊢
        repeat first
          | (apply WL.q; exact rfl; exact rfl; exact rfl; (first | (apply EvW.move; exact rfl) | (apply EvW.assign; exact rfl) | (apply EvW.fieldAddr0; exact rfl; exact FldC.eq) | (apply EvW.load; exact rfl; exact ScalC.eq; (focus ((repeat constructor); done)); exact rfl) | (apply EvW.cmpT; exact rfl; exact rfl; exact rfl; omega) | (apply EvW.cmpF; exact rfl; exact rfl; exact rfl; omega) | (apply EvW.arN; exact rfl; exact rfl; exact rfl; refine i64_in ?_ ?_ <;> omega) | (apply EvW.pickT; exact rfl; exact rfl) | (apply EvW.pickF; exact rfl; exact rfl) | (apply EvW.notT; exact rfl) | (apply EvW.loadAgg; exact rfl; exact AggC.eq; exact SzC.eq; (focus ((repeat constructor); done)); (focus ((repeat (first | exact SubL.nil | apply SubL.cons | apply SubL.succ)); done)))))
          | refine WC.seq ?_ | refine WC.region ?_ | refine WL.nil ?_ | refine WE.next ?_ | refine WC.skip ?_ | refine WC.condF rfl ?_ | refine WL.wanted rfl rfl rfl ?_ | (apply WL.store; exact rfl; exact rfl; (first | assumption | exact rfl); exact SzC.eq; (first | assumption | exact rfl); (focus ((repeat constructor); done)))
        try refine WL.wanted rfl rfl rfl ?_
        (apply WL.buildSlice; exact rfl; exact UndC.eq; exact SzC.eq; exact ZvC.eq; exact rfl; exact rfl; exact rfl; ((focus ((repeat (first | exact Flat.nil | (apply Flat.one; (first | exact rfl | assumption)) | (apply Flat.cons; exact rfl; exact rfl))); done))); exact rfl; exact rfl; intro k0)
        try refine WL.wanted rfl rfl rfl ?_
        (apply WL.append; exact rfl; exact rfl; exact rfl; exact UndC.eq; exact SzC.eq; exact ByC.eq; exact ZvC.eq; exact rfl; (first | exact notInt_sl UndC.eq | exact notInt_st UndC.eq); exact rfl; (focus ((repeat constructor); done)))
        · exact adds_blk .head rfl rfl
        · (omega)
        intro x1
        refine WL.ownEq (cs' := (numd f (rs.take (i + 1))).flatMap recC) (len' := (numd f (rs.take (i + 1))).length) .head (by rw [hnl, hnl2]) hst ?_
        (first | refine WL.slOwn (v := x1) (by repeat constructor) ?_ | refine WC.slOwn (v := x1) (by repeat constructor) ?_)
        intro hc_x1 ho_x1
        repeat first
          | (apply WL.q; exact rfl; exact rfl; exact rfl; (first | (apply EvW.move; exact rfl) | (apply EvW.assign; exact rfl) | (apply EvW.fieldAddr0; exact rfl; exact FldC.eq) | (apply EvW.load; exact rfl; exact ScalC.eq; (focus ((repeat constructor); done)); exact rfl) | (apply EvW.arN; exact rfl; exact rfl; exact rfl; refine i64_in ?_ ?_ <;> omega)))
          | refine WC.seq ?_ | refine WC.region ?_ | refine WL.nil ?_ | refine WE.next ?_ | refine WE.out ?_ | (apply WL.store; exact rfl; exact rfl; (first | assumption | exact rfl); exact SzC.eq; (first | assumption | exact rfl); (focus ((repeat constructor); done)))
        exact WE.again (s := (i, at', v)) ((i + 1, (cont f (sx, false) (rs.take (i + 1))).length, x1)) ⟨by simp only []; omega, rfl⟩ (by (focus ((repeat (first | exact trivial | (refine ⟨rfl, ?_⟩))); done))) (fun _ h => (by (try simp only []); exact h.keep (by repeat constructor))) (by (try simp only []); omega)
    · obtain rfl : i = rs.length := by omega
      rw [List.take_length] at hat hnl ⊢
      repeat first
        | (apply WL.q; exact rfl; exact rfl; exact rfl; (first | (apply EvW.move; exact rfl)))
        | refine WC.seq ?_ | refine WC.region ?_ | refine WC.block ?_
      try refine WL.wanted rfl rfl rfl ?_
      apply WL.callA ([])
      · exact rfl
      · exact rfl
      · exact fun w => Try.call58 _ w
      · (focus ((repeat constructor); done))
      · exact fun w1 S1 hS1 hs1 ho1 => jread_spec P at' w1 S1 hS1 (by omega)
      rintro _ _ ⟨rfl, rfl⟩
      first | refine WL.app4 ?_ | refine WL.app3 ?_ | refine WL.app2 ?_ | refine WL.app1 ?_ | refine WL.app0 ?_ | skip
      rw [hat, h.ends]
      dsimp only [readV]
      repeat first
        | (apply WL.q; exact rfl; exact rfl; exact rfl; (first | (apply EvW.move; exact rfl) | (apply EvW.extract; exact rfl; exact rfl)))
      try refine WL.wanted rfl rfl rfl ?_
      (apply WL.alloc; exact rfl; exact ZvC.eq; exact rfl; intro xb)
      repeat first
        | (apply WL.q; exact rfl; exact rfl; exact rfl; (first | (apply EvW.move; exact rfl) | (apply EvW.assign; exact rfl) | (apply EvW.pickT; exact rfl; exact rfl) | (apply EvW.notF; exact rfl) | (apply EvW.loadAgg; exact rfl; exact AggC.eq; exact SzC.eq; (focus ((repeat constructor); done)); (focus ((repeat (first | exact SubL.nil | apply SubL.cons | apply SubL.succ)); done)))))
        | refine WC.seq ?_ | refine WC.region ?_ | refine WL.nil ?_ | refine WE.next ?_ | refine WC.condT rfl ?_ | refine WC.ret ?_ | refine WE.passRet ?_ | refine WE.outRet ?_ | refine WL.unwanted rfl rfl rfl rfl ?_ | refine WL.unwantedU rfl rfl rfl rfl ?_ | (apply WL.store; exact rfl; exact rfl; (first | assumption | exact rfl); exact SzC.eq; (first | assumption | exact rfl); (focus ((repeat constructor); done)))
      (apply WE.retC2 (A' := [.own 34 3 (v) (numd f rs).length ((numd f rs).flatMap recC)]); exact rfl; exact rfl; exact rfl; (focus ((repeat constructor); done)); exact AggC.eq; exact SzC.eq; exact fun _ h => h.keep (by repeat constructor))
      exact ⟨v, rfl, rfl⟩
end Go.Proofs.Ytknclcjmfgdphaa
namespace Go.Proofs.Ytknclcjmfgdphaa
open Go.RowKit Go.BK
/-- What a page tells. -/
structure Fd where
  page : Int
  first : Int
  n : Int
  safe : Txt
  any : Bool
  v : Value
instance : Inhabited Fd := ⟨⟨0, 0, 0, [], false, .slice none 0 0⟩⟩
def fdC (f : Fd) : List Value := [i64 f.page, i64 f.first, i64 f.n, str f.safe, .bool f.any, f.v]
theorem fdC_len (f : Fd) : (fdC f).length = 6 := rfl
def OneV (l : List Fd) : Prop := ∀ f ∈ l, f.v.oneCell' = true
theorem oneC {f : Fd} (h : f.v.oneCell' = true) : (fdC f).all (·.oneCell') = true := by
  simp [fdC, h]
  exact ⟨rfl, rfl, rfl, rfl, rfl⟩
def sgn (a b : Int) : Int := if a < b then -1 else if b < a then 1 else 0
def cmpV (x y : Fd) : Int := if sgn x.first y.first ≠ 0 then sgn x.first y.first else sgn x.n y.n
def kle (x y : Fd) : Prop := x.first < y.first ∨ (x.first = y.first ∧ x.n ≤ y.n)
theorem cmpV_lt (x y : Fd) : cmpV x y < 0 ↔ ¬ kle y x := by
  unfold cmpV kle sgn
  by_cases h1 : x.first < y.first
  · rw [if_pos h1, if_pos (by decide)]
    exact ⟨fun _ h => by omega, fun _ => by decide⟩
  · rw [if_neg h1]
    by_cases h2 : y.first < x.first
    · rw [if_pos h2, if_pos (by decide)]
      exact ⟨fun h => absurd h (by decide), fun h => absurd (.inl h2) h⟩
    · rw [if_neg h2, if_neg (by decide)]
      by_cases h3 : x.n < y.n
      · rw [if_pos h3]; exact ⟨fun _ h => by omega, fun _ => by decide⟩
      · rw [if_neg h3]
        refine ⟨fun h => ?_, fun h => absurd (.inr ⟨by omega, by omega⟩) h⟩
        split at h <;> omega
theorem kle_total (x y : Fd) : kle x y ∨ kle y x := by unfold kle; omega
theorem kle_trans {x y z : Fd} (h : kle x y) (h2 : kle y z) : kle x z := by unfold kle at *; omega
theorem kle_not {x y : Fd} (h : ¬ kle x y) : kle y x := (kle_total x y).resolve_left h
theorem isnan_spec (x : Int) (w : World) (S : BSet) (hS : (sepL []).sat S w)  :
    Tri Try.prog 60 #[i64 x] w S fun u A => u = .bool false ∧ A = [] := by
  refine Tri.enter (l := [i64 x]) Try.func60 rfl Try.ntmps60 rfl [(0, i64 x)] (subA rfl) hS ?_
  repeat first
    | (apply WL.q; exact rfl; exact rfl; exact rfl; (first | (apply EvW.move; exact rfl) | (apply EvW.assign; exact rfl) | (apply EvW.cmpF; exact rfl; exact rfl; exact rfl; omega)))
    | refine WC.seq ?_ | refine WC.region ?_ | refine WL.nil ?_ | refine WE.next ?_ | refine WC.ret ?_
  refine WE.ret1 rfl rfl ?_
  exact ⟨rfl, rfl⟩
theorem compare_spec (x y : Int) (w : World) (S : BSet) (hS : (sepL []).sat S w)  :
    Tri Try.prog 36 #[i64 x, i64 y] w S fun u A => u = i64 (sgn x y) ∧ A = [] := by
  refine Tri.enter (l := [i64 x, i64 y]) Try.func36 rfl Try.ntmps36 rfl [(0, i64 x), (1, i64 y)] (subA rfl) hS ?_
  unfold sgn
  repeat first
    | (apply WL.q; exact rfl; exact rfl; exact rfl; (first | (apply EvW.move; exact rfl) | (apply EvW.assign; exact rfl)))
    | refine WC.seq ?_ | refine WC.region ?_ | refine WL.nil ?_ | refine WE.next ?_
  try refine WL.wanted rfl rfl rfl ?_
  apply WL.callA ([])
  · exact rfl
  · exact rfl
  · exact fun w => Try.call60 _ w
  · (focus ((repeat constructor); done))
  · exact fun w1 S1 hS1 hs1 ho1 => isnan_spec x w1 S1 hS1
  rintro _ _ ⟨rfl, rfl⟩
  first | refine WL.app4 ?_ | refine WL.app3 ?_ | refine WL.app2 ?_ | refine WL.app1 ?_ | refine WL.app0 ?_ | skip
  repeat first
    | (apply WL.q; exact rfl; exact rfl; exact rfl; (first | (apply EvW.move; exact rfl) | (apply EvW.assign; exact rfl)))
    | refine WC.seq ?_ | refine WC.region ?_ | refine WL.nil ?_ | refine WE.next ?_
  try refine WL.wanted rfl rfl rfl ?_
  apply WL.callA ([])
  · exact rfl
  · exact rfl
  · exact fun w => Try.call60 _ w
  · (focus ((repeat constructor); done))
  · exact fun w1 S1 hS1 hs1 ho1 => isnan_spec y w1 S1 hS1
  rintro _ _ ⟨rfl, rfl⟩
  first | refine WL.app4 ?_ | refine WL.app3 ?_ | refine WL.app2 ?_ | refine WL.app1 ?_ | refine WL.app0 ?_ | skip
  by_cases h1 : x < y
  · rw [if_pos h1]
    repeat first
      | (apply WL.q; exact rfl; exact rfl; exact rfl; (first | (apply EvW.move; exact rfl) | (apply EvW.assign; exact rfl) | (apply EvW.cmpT; exact rfl; exact rfl; exact rfl; omega)))
      | refine WC.seq ?_ | refine WC.region ?_ | refine WL.nil ?_ | refine WE.next ?_ | refine WC.skip ?_ | refine WC.condT rfl ?_ | refine WC.condF rfl ?_ | refine WC.ret ?_ | refine WE.passRet ?_
    refine WE.ret1 rfl rfl ?_
    exact ⟨rfl, rfl⟩
  rw [if_neg h1]
  by_cases h2 : y < x
  · rw [if_pos h2]
    repeat first
      | (apply WL.q; exact rfl; exact rfl; exact rfl; (first | (apply EvW.move; exact rfl) | (apply EvW.assign; exact rfl) | (apply EvW.cmpT; exact rfl; exact rfl; exact rfl; omega) | (apply EvW.cmpF; exact rfl; exact rfl; exact rfl; omega)))
      | refine WC.seq ?_ | refine WC.region ?_ | refine WL.nil ?_ | refine WE.next ?_ | refine WC.skip ?_ | refine WC.condT rfl ?_ | refine WC.condF rfl ?_ | refine WC.ret ?_ | refine WE.passRet ?_
    refine WE.ret1 rfl rfl ?_
    exact ⟨rfl, rfl⟩
  rw [if_neg h2]
  repeat first
    | (apply WL.q; exact rfl; exact rfl; exact rfl; (first | (apply EvW.move; exact rfl) | (apply EvW.assign; exact rfl) | (apply EvW.cmpF; exact rfl; exact rfl; exact rfl; omega)))
    | refine WC.seq ?_ | refine WC.region ?_ | refine WL.nil ?_ | refine WE.next ?_ | refine WC.skip ?_ | refine WC.condF rfl ?_ | refine WC.ret ?_
  refine WE.ret1 rfl rfl ?_
  exact ⟨rfl, rfl⟩
theorem or2_spec (v : Value) (a b : Int) (w : World) (S : BSet) (hS : (sepL []).sat S w) (hv : Sees w S (.row 1 v 2 [i64 a, i64 b])) :
    Tri Try.prog 35 #[v] w S fun u A => u = i64 (if a ≠ 0 then a else b) ∧ A = [] := by
  refine Tri.enter (l := [v]) Try.func35 rfl Try.ntmps35 rfl [(0, v)] (subA rfl) hS ?_
  have hv2 : Sees w S (.row 1 v [a, b].length ([a, b].map i64)) := hv
  repeat first
    | (apply WL.q; exact rfl; exact rfl; exact rfl; (first | (apply EvW.move; exact rfl) | (apply EvW.assign; exact rfl) | (apply EvW.lenRow; exact rfl; exact UndC.eq; assumption)))
    | refine WC.seq ?_ | refine WC.region ?_ | refine WL.nil ?_ | refine WE.next ?_ | refine WC.block ?_
  refine WC.loopK (σ := Nat) [3, 6, 7] (fun s => [(8, i64 s)]) (fun s => []) (fun s => s ≤ 2 ∧ (1 ≤ s → a = 0) ∧ (2 ≤ s → b = 0)) (fun s => 2 - s) 0 (by (focus ((repeat (first | exact Pick.nil | (apply Pick.cons; exact rfl))); done))) (by (focus ((repeat (first | exact trivial | (refine ⟨rfl, ?_⟩))); done))) (fun _ h => h.keep (by repeat constructor)) ⟨Nat.zero_le _, fun h => absurd h (by decide), fun h => absurd h (by decide)⟩ (fun s hs => ?_)
  obtain ⟨k, rfl⟩ : ∃ q, q = s := ⟨s, rfl⟩
  simp only [List.cons_append, List.nil_append] at hs ⊢
  obtain ⟨hk, ha, hb⟩ := hs
  by_cases hlt : (k : Int) < 2
  · have hkc : k = 0 ∨ k = 1 := by omega
    rcases hkc with rfl | rfl
    · by_cases h0 : a = 0
      · repeat first
          | (apply WL.q; exact rfl; exact rfl; exact rfl; (first | (apply EvW.cmpT; exact rfl; exact rfl; exact rfl; omega) | (apply EvW.idxRow; exact rfl; exact rfl; exact UndC.eq; exact SzC.eq; assumption; omega; omega)))
          | refine WC.seq ?_ | refine WC.region ?_ | refine WL.nil ?_ | refine WE.next ?_ | refine WC.block ?_ | refine WC.skip ?_ | refine WC.condT rfl ?_
        (apply WL.q; exact rfl; exact rfl; exact rfl; (apply EvW.ldRow (q := i64 a); exact rfl; exact ScalC.eq; exact hv; exact rfl))
        repeat first
          | (apply WL.q; exact rfl; exact rfl; exact rfl; (first | (apply EvW.move; exact rfl) | (apply EvW.assign; exact rfl) | (apply EvW.cmpF; exact rfl; exact rfl; exact rfl; omega) | (apply EvW.arN; exact rfl; exact rfl; exact rfl; refine i64_in ?_ ?_ <;> omega)))
          | refine WC.seq ?_ | refine WC.region ?_ | refine WL.nil ?_ | refine WE.next ?_ | refine WC.skip ?_ | refine WE.out ?_ | refine WC.condF rfl ?_
        exact WE.again (s := (0 : Nat)) ((1)) ⟨by omega, fun _ => h0, fun h => absurd h (by decide)⟩ (by (focus ((repeat (first | exact trivial | (refine ⟨rfl, ?_⟩))); done))) (fun _ h => (by (try simp only []); exact h.keep (by repeat constructor))) (by (try simp only []); omega)
      · rw [if_pos h0]
        repeat first
          | (apply WL.q; exact rfl; exact rfl; exact rfl; (first | (apply EvW.cmpT; exact rfl; exact rfl; exact rfl; omega) | (apply EvW.idxRow; exact rfl; exact rfl; exact UndC.eq; exact SzC.eq; assumption; omega; omega)))
          | refine WC.seq ?_ | refine WC.region ?_ | refine WL.nil ?_ | refine WE.next ?_ | refine WC.block ?_ | refine WC.skip ?_ | refine WC.condT rfl ?_
        (apply WL.q; exact rfl; exact rfl; exact rfl; (apply EvW.ldRow (q := i64 a); exact rfl; exact ScalC.eq; exact hv; exact rfl))
        repeat first
          | (apply WL.q; exact rfl; exact rfl; exact rfl; (first | (apply EvW.move; exact rfl) | (apply EvW.assign; exact rfl) | (apply EvW.cmpT; exact rfl; exact rfl; exact rfl; omega)))
          | refine WC.seq ?_ | refine WC.region ?_ | refine WL.nil ?_ | refine WE.next ?_ | refine WC.condT rfl ?_ | refine WC.ret ?_ | refine WE.passRet ?_ | refine WE.outRet ?_
        refine WE.ret1 rfl rfl ?_
        exact ⟨rfl, rfl⟩
    · have h0 : a = 0 := ha (by omega)
      rw [if_neg (by omega)]
      by_cases h1 : b = 0
      · repeat first
          | (apply WL.q; exact rfl; exact rfl; exact rfl; (first | (apply EvW.cmpT; exact rfl; exact rfl; exact rfl; omega) | (apply EvW.idxRow; exact rfl; exact rfl; exact UndC.eq; exact SzC.eq; assumption; omega; omega)))
          | refine WC.seq ?_ | refine WC.region ?_ | refine WL.nil ?_ | refine WE.next ?_ | refine WC.block ?_ | refine WC.skip ?_ | refine WC.condT rfl ?_
        (apply WL.q; exact rfl; exact rfl; exact rfl; (apply EvW.ldRow (q := i64 b); exact rfl; exact ScalC.eq; exact hv; exact rfl))
        repeat first
          | (apply WL.q; exact rfl; exact rfl; exact rfl; (first | (apply EvW.move; exact rfl) | (apply EvW.assign; exact rfl) | (apply EvW.cmpF; exact rfl; exact rfl; exact rfl; omega) | (apply EvW.arN; exact rfl; exact rfl; exact rfl; refine i64_in ?_ ?_ <;> omega)))
          | refine WC.seq ?_ | refine WC.region ?_ | refine WL.nil ?_ | refine WE.next ?_ | refine WC.skip ?_ | refine WE.out ?_ | refine WC.condF rfl ?_
        exact WE.again (s := (1 : Nat)) ((2)) ⟨by omega, fun _ => h0, fun _ => h1⟩ (by (focus ((repeat (first | exact trivial | (refine ⟨rfl, ?_⟩))); done))) (fun _ h => (by (try simp only []); exact h.keep (by repeat constructor))) (by (try simp only []); omega)
      · repeat first
          | (apply WL.q; exact rfl; exact rfl; exact rfl; (first | (apply EvW.cmpT; exact rfl; exact rfl; exact rfl; omega) | (apply EvW.idxRow; exact rfl; exact rfl; exact UndC.eq; exact SzC.eq; assumption; omega; omega)))
          | refine WC.seq ?_ | refine WC.region ?_ | refine WL.nil ?_ | refine WE.next ?_ | refine WC.block ?_ | refine WC.skip ?_ | refine WC.condT rfl ?_
        (apply WL.q; exact rfl; exact rfl; exact rfl; (apply EvW.ldRow (q := i64 b); exact rfl; exact ScalC.eq; exact hv; exact rfl))
        repeat first
          | (apply WL.q; exact rfl; exact rfl; exact rfl; (first | (apply EvW.move; exact rfl) | (apply EvW.assign; exact rfl) | (apply EvW.cmpT; exact rfl; exact rfl; exact rfl; omega)))
          | refine WC.seq ?_ | refine WC.region ?_ | refine WL.nil ?_ | refine WE.next ?_ | refine WC.condT rfl ?_ | refine WC.ret ?_ | refine WE.passRet ?_ | refine WE.outRet ?_
        refine WE.ret1 rfl rfl ?_
        exact ⟨rfl, rfl⟩
  · have h0 : a = 0 := ha (by omega)
    have h1 : b = 0 := hb (by omega)
    rw [if_neg (by omega), h1]
    repeat first
      | (apply WL.q; exact rfl; exact rfl; exact rfl; (first | (apply EvW.move; exact rfl) | (apply EvW.assign; exact rfl) | (apply EvW.cmpF; exact rfl; exact rfl; exact rfl; omega)))
      | refine WC.seq ?_ | refine WC.region ?_ | refine WL.nil ?_ | refine WE.next ?_ | refine WC.exit ?_ | refine WE.pass ?_ | refine WE.hit ?_ | refine WC.condF rfl ?_ | refine WC.ret ?_
    refine WE.ret1 rfl rfl ?_
    exact ⟨rfl, rfl⟩
theorem cmp_spec (x y : Fd) (w : World) (S : BSet) (hS : (sepL []).sat S w) (hx : x.v.oneCell' = true) (hy : y.v.oneCell' = true) :
    Tri Try.prog 34 #[.agg (fdC x).toArray, .agg (fdC y).toArray] w S fun u A => u = i64 (cmpV x y) ∧ A = [] := by
  refine Tri.enter (l := [.agg (fdC x).toArray, .agg (fdC y).toArray]) Try.func34 rfl Try.ntmps34 rfl [(0, .agg (fdC x).toArray), (1, .agg (fdC y).toArray)] (subA rfl) hS ?_
  have hcx := oneC hx
  have hcy := oneC hy
  unfold cmpV
  repeat first
    | refine WC.seq ?_ | refine WC.region ?_
  try refine WL.wanted rfl rfl rfl ?_
  (apply WL.box; exact rfl; exact rfl; exact rfl; intro x0)
  skip
  try refine WL.wanted rfl rfl rfl ?_
  (apply WL.box; exact rfl; exact rfl; exact rfl; intro y0)
  repeat first
    | (apply WL.q; exact rfl; exact rfl; exact rfl; (first | (apply EvW.assign; exact rfl)))
    | refine WC.seq ?_ | refine WL.nil ?_ | refine WE.next ?_
  repeat refine WC.seq ?_
  refine WC.keep (xs := [.blk x0 #[i64 x.page, i64 x.first, i64 x.n, str x.safe, .bool x.any, x.v] 70, .blk y0 #[i64 y.page, i64 y.first, i64 y.n, str y.safe, .bool y.any, y.v] 70]) (by repeat constructor) ?_
  apply WC.par _ (fun c : Ch => [.blk x0 #[i64 x.page, i64 x.first, i64 x.n, str x.safe, .bool x.any, x.v] 70, .blk y0 #[i64 y.page, i64 y.first, i64 y.n, str y.safe, .bool y.any, y.v] 70, .blk (c 14).1 #[i64 (sgn x.first y.first), i64 (sgn x.n y.n)] 3]) [none, none, some 14] [none, none, none] [(14, fun x => .slice (some ⟨x.1, 0, none⟩) 2 2)] Try.mixed
  · (focus ((repeat (first | exact Restr.nil | (apply Restr.keep; exact rfl; exact rfl) | (apply Restr.drop; exact rfl))); done))
  · intro c; exact (by repeat constructor)
  · exact rfl
  · decide +kernel
  · decide +kernel
  · intro c
    (apply Par.quiet _ [true, true, false]; exact rfl; decide +kernel; exact rfl; intro R; refine ⟨_, (by repeat constructor), ?_⟩;
         (first | (apply EvW.fieldAddr0; exact rfl; exact FldC.eq)))
    (apply Par.quiet _ [true, true, false]; exact rfl; decide +kernel; exact rfl; intro R; refine ⟨_, (by repeat constructor), ?_⟩;
         (first | (apply EvW.fieldAddr0; exact rfl; exact FldC.eq)))
    (apply Par.quiet _ [true, true, false]; exact rfl; decide +kernel; exact rfl; intro R; refine ⟨_, (by repeat constructor), ?_⟩;
         (first | (apply EvW.load; exact rfl; exact ScalC.eq; (focus ((repeat constructor); done)); exact rfl)))
    (apply Par.quiet _ [true, true, false]; exact rfl; decide +kernel; exact rfl; intro R; refine ⟨_, (by repeat constructor), ?_⟩;
         (first | (apply EvW.fieldAddr0; exact rfl; exact FldC.eq)))
    (apply Par.quiet _ [true, true, false]; exact rfl; decide +kernel; exact rfl; intro R; refine ⟨_, (by repeat constructor), ?_⟩;
         (first | (apply EvW.fieldAddr0; exact rfl; exact FldC.eq)))
    (apply Par.quiet _ [true, true, false]; exact rfl; decide +kernel; exact rfl; intro R; refine ⟨_, (by repeat constructor), ?_⟩;
         (first | (apply EvW.load; exact rfl; exact ScalC.eq; (focus ((repeat constructor); done)); exact rfl)))
    apply Par.quiet _ [true, true, false]
    · exact rfl
    · decide +kernel
    · exact rfl
    · intro R
      refine ⟨_, (by repeat constructor), ?_⟩
      apply EvW.callK ([])
      · exact rfl
      · exact fun w => Try.call36 _ w
      · (focus ((repeat constructor); done))
      · exact fun w1 S1 hS1 hs1 ho1 => compare_spec x.first y.first w1 S1 hS1
      · exact fun _ _ h => h
    (apply Par.quiet _ [true, true, false]; exact rfl; decide +kernel; exact rfl; intro R; refine ⟨_, (by repeat constructor), ?_⟩;
         (first | (apply EvW.fieldAddr0; exact rfl; exact FldC.eq)))
    (apply Par.quiet _ [true, true, false]; exact rfl; decide +kernel; exact rfl; intro R; refine ⟨_, (by repeat constructor), ?_⟩;
         (first | (apply EvW.fieldAddr0; exact rfl; exact FldC.eq)))
    (apply Par.quiet _ [true, true, false]; exact rfl; decide +kernel; exact rfl; intro R; refine ⟨_, (by repeat constructor), ?_⟩;
         (first | (apply EvW.load; exact rfl; exact ScalC.eq; (focus ((repeat constructor); done)); exact rfl)))
    (apply Par.quiet _ [true, true, false]; exact rfl; decide +kernel; exact rfl; intro R; refine ⟨_, (by repeat constructor), ?_⟩;
         (first | (apply EvW.fieldAddr0; exact rfl; exact FldC.eq)))
    (apply Par.quiet _ [true, true, false]; exact rfl; decide +kernel; exact rfl; intro R; refine ⟨_, (by repeat constructor), ?_⟩;
         (first | (apply EvW.fieldAddr0; exact rfl; exact FldC.eq)))
    (apply Par.quiet _ [true, true, false]; exact rfl; decide +kernel; exact rfl; intro R; refine ⟨_, (by repeat constructor), ?_⟩;
         (first | (apply EvW.load; exact rfl; exact ScalC.eq; (focus ((repeat constructor); done)); exact rfl)))
    apply Par.quiet _ [true, true, false]
    · exact rfl
    · decide +kernel
    · exact rfl
    · intro R
      refine ⟨_, (by repeat constructor), ?_⟩
      apply EvW.callK ([])
      · exact rfl
      · exact fun w => Try.call36 _ w
      · (focus ((repeat constructor); done))
      · exact fun w1 S1 hS1 hs1 ho1 => compare_spec x.n y.n w1 S1 hS1
      · exact fun _ _ h => h
    (apply Par.new _ [false, false, false] [false, false, true] [true, true, false]; exact rfl; exact rfl; decide +kernel; intro R; refine ⟨_, _, _, (by repeat constructor), (by repeat constructor), (fun x => (by repeat constructor)), ?_⟩; (apply NewW.buildSlice; exact UndC.eq; exact SzC.eq; exact ZvC.eq; exact rfl; exact rfl; exact rfl; (focus ((repeat (first | exact Flat.nil | (apply Flat.one; (first | exact rfl | assumption)) | (apply Flat.cons; exact rfl; exact rfl))); done)); exact rfl; exact rfl; exact fun _ => rfl))
    apply Par.quiet _ [true, true, true]
    · exact rfl
    · decide +kernel
    · exact rfl
    · intro R
      refine ⟨_, (by repeat constructor), ?_⟩
      apply EvW.callK ([])
      · exact rfl
      · exact fun w => Try.call35 _ w
      · (focus ((repeat constructor); done))
      · exact fun w1 S1 hS1 hs1 ho1 => or2_spec _ (sgn x.first y.first) (sgn x.n y.n) w1 S1 hS1 ((ho1 _ _ (by repeat constructor)).blkRow rfl (fun k u h => by simpa using h) (by simp))
      · exact fun _ _ h => h
    (apply Par.quiet _ [true, true, true]; exact rfl; decide +kernel; exact rfl; intro R; refine ⟨_, (by repeat constructor), ?_⟩;
         (first | (apply EvW.assign; exact rfl)))
    exact Par.nil
  · repeat (first | exact AllN.nil | (apply AllN.cons; (intro c x; (repeat (first | exact IndA.nil | (apply IndA.skip; decide +kernel) | apply IndA.same))))) 
  · repeat (first | exact AllN.nil | (apply AllN.cons; (intro c x; (repeat (first | exact IndT.nil | (apply IndT.skip; decide +kernel) | apply IndT.same))))) 
  · exact fun _ => rfl
  intro c
  refine ⟨_, (by repeat constructor), ?_⟩
  apply WE.writ
  · (focus ((repeat (first | exact Writ.nil | apply Writ.some | apply Writ.none)); done))
  generalize (c 14).1 = b14
  repeat first
    | refine WE.next ?_ | refine WC.ret ?_
  refine WE.keep (xs := []) (by repeat constructor) ?_
  refine WE.ret1 rfl rfl ?_
  exact ⟨rfl, rfl⟩
end Go.Proofs.Ytknclcjmfgdphaa
namespace Go.Proofs.Ytknclcjmfgdphaa
open Go.RowKit Go.BK
theorem set_mid {α : Type} (p : List α) (a u : α) (r : List α) : (p ++ a :: r).set p.length u = p ++ u :: r := by
  rw [List.set_append_right _ _ (Nat.le_refl _), Nat.sub_self]; rfl
theorem over_fd (c d : Fd) : over (fdC d) 0 (fdC c) = fdC c := by simp [over, fdC]
theorem st_fd (v : Value) (xs : List Fd) (i : Nat) (u : Fd) (h : i < xs.length) : HP.own 70 6 v xs.length (over (xs.flatMap fdC) (i * 6 + 0) (fdC u)) = HP.own 70 6 v (xs.set i u).length ((xs.set i u).flatMap fdC) := by
  rw [List.length_set, over_flat (z := default) (y := u) fdC_len xs i h (over_fd u _).symm (by rw [fdC_len]; decide)]
section
variable {P : Program} {w0 : World} {S0 : BSet} {n : Nat} {F : Fr} {A r : List HP} {dd : Option Tmp} {T t : TypeId} {pos : String} {af : Array Edge} {g : Option (Nat × Bool)} {x y : Operand} {v : Value} {xs ys : List Fd} {k : Nat}
theorem flat_fd (xs : List Fd) : (xs.flatMap fdC).length = xs.length * 6 := by
  induction xs with
  | nil => rfl
  | cons t l ih => rw [List.flatMap_cons, List.length_append, ih, List.length_cons, fdC_len]; omega
theorem EvW.ldFd (c : Fd) (hx : ev F x = some (elemP 6 v k 0)) (hs : aggB P t = true) (hm : szB P t = some 6) (ht : Take (.own 70 6 (v) (xs).length ((xs).flatMap fdC)) A r) (hk : k < xs.length) (hg : xs.getD k default = c) : EvW P w0 S0 n F A ⟨dd, .load t x, T, pos, af, g⟩ (.agg (fdC c).toArray) := by
  subst hg
  exact EvW.ldElemOwn (xs := xs) (z := (default : Fd)) (f := fdC) hx hs hm rfl fdC_len ht hk
theorem EffW.stFd (c : Fd) (hx : ev F x = some (elemP 6 v k 0)) (hy : ev F y = some (.agg (fdC c).toArray)) (hm : szB P t = some 6) (hc : c.v.oneCell' = true) (hk : k < xs.length) (hs : xs.set k c = ys) : EffW P w0 S0 n F (.own 70 6 (v) (xs).length ((xs).flatMap fdC) :: r) (.own 70 6 (v) (ys).length ((ys).flatMap fdC) :: r) ⟨none, .store t x y, T, pos, af, g⟩ undef := by
  subst hs
  refine EffW.stOwn (ys := fdC c) hx hy rfl hm (oneC hc) rfl .head (by rw [flat_fd, fdC_len]; omega) ?_
  rw [st_fd v xs k c hk]
  exact .head
end
theorem OneV.mid {p q : List Fd} {c : Fd} (h : OneV (p ++ c :: q)) : c.v.oneCell' = true := h c (by simp)
/-- Two ranges that are to change places, so far as they have. -/
def srS (p x y z q : List Fd) (i : Nat) : List Fd := p ++ ((z.take i ++ x.drop i) ++ (y ++ ((x.take i ++ z.drop i) ++ q)))
theorem srS_0 (p x y z q : List Fd) : srS p x y z q 0 = p ++ (x ++ (y ++ (z ++ q))) := rfl
theorem srS_all (p x y z q : List Fd) (h : x.length = z.length) : srS p x y z q x.length = p ++ (z ++ (y ++ (x ++ q))) := by
  unfold srS
  rw [List.take_of_length_le (Nat.le_of_eq h.symm), List.drop_length, List.take_length, List.drop_of_length_le (Nat.le_of_eq h.symm), List.append_nil, List.append_nil]
theorem cut_at {α : Type} [Inhabited α] (l : List α) (i : Nat) (h : i < l.length) : l.drop i = l.getD i default :: l.drop (i + 1) := by
  rw [List.getD_eq_getElem?_getD, List.getElem?_eq_getElem h]; exact List.drop_eq_getElem_cons h
theorem take_at' {α : Type} [Inhabited α] (l : List α) (i : Nat) (h : i < l.length) : l.take (i + 1) = l.take i ++ [l.getD i default] := by
  rw [List.take_add_one, List.getD_eq_getElem?_getD, List.getElem?_eq_getElem h]; rfl
theorem srS_form (p x y z q : List Fd) (i : Nat) (h : x.length = z.length) (hi : i < x.length) :
    ∃ P M Q, P.length = p.length + i ∧ P.length + 1 + M.length = p.length + x.length + y.length + i ∧ srS p x y z q i = P ++ x.getD i default :: (M ++ z.getD i default :: Q) ∧ srS p x y z q (i + 1) = P ++ z.getD i default :: (M ++ x.getD i default :: Q) := by
  refine ⟨p ++ z.take i, x.drop (i + 1) ++ (y ++ x.take i), z.drop (i + 1) ++ q, ?_, ?_, ?_, ?_⟩
  · rw [List.length_append, List.length_take]; omega
  · simp only [List.length_append, List.length_take, List.length_drop]; omega
  · unfold srS
    rw [cut_at x i hi, cut_at z i (by omega)]
    simp [List.append_assoc]
  · unfold srS
    rw [take_at' x i hi, take_at' z i (by omega)]
    simp [List.append_assoc]
theorem OneV.perm {a b : List Fd} (h : OneV a) (e : b.Perm a) : OneV b := fun f hf => h f (e.mem_iff.1 hf)
theorem srS_perm (p x y z q : List Fd) (i : Nat) (h : x.length = z.length) (hi : i ≤ x.length) : (srS p x y z q i).Perm (p ++ (x ++ (y ++ (z ++ q)))) := by
  induction i with
  | zero => exact List.Perm.refl _
  | succ i ih =>
    obtain ⟨P, M, Q, _, _, h1, h2⟩ := srS_form p x y z q i h (by omega)
    rw [h2]
    refine List.Perm.trans ?_ (ih (by omega))
    rw [h1]
    refine List.Perm.append_left P ?_
    refine (List.Perm.cons _ List.perm_middle).trans ?_
    refine (List.Perm.swap _ _ _).trans ?_
    exact (List.Perm.cons _ List.perm_middle.symm)
theorem swp_two (P : List Fd) (a b : Fd) (M Q : List Fd) : (P ++ a :: (M ++ b :: Q)).getD P.length default = a ∧ (P ++ a :: (M ++ b :: Q)).getD (P.length + 1 + M.length) default = b ∧ (P ++ a :: (M ++ b :: Q)).set P.length b = P ++ b :: (M ++ b :: Q) ∧ (P ++ b :: (M ++ b :: Q)).set (P.length + 1 + M.length) a = P ++ b :: (M ++ a :: Q) ∧
    (P ++ a :: (M ++ b :: Q)).set (P.length + 1 + M.length) a = P ++ a :: (M ++ a :: Q) ∧ (P ++ a :: (M ++ a :: Q)).set P.length b = P ++ b :: (M ++ a :: Q) ∧ P.length + 1 + M.length < (P ++ a :: (M ++ b :: Q)).length := by
  have e : ∀ c d, P ++ c :: (M ++ d :: Q) = (P ++ c :: M) ++ d :: Q := fun c d => by simp [List.append_assoc]
  have el : ∀ c : Fd, (P ++ c :: M).length = P.length + 1 + M.length := fun c => by rw [List.length_append, List.length_cons]; omega
  refine ⟨getD_mid _ _ _ _, ?_, set_mid _ _ _ _, ?_, ?_, set_mid _ _ _ _, ?_⟩
  · rw [e, ← el a]; exact getD_mid _ _ _ _
  · rw [e, ← el b, set_mid, e]
  · rw [e, ← el a, set_mid, e]
  · simp only [List.length_append, List.length_cons]; omega
theorem swapRange_spec (v : Value) (p x y z q : List Fd) (a b n : Int) (w : World) (S : BSet) (hS : (sepL [.own 70 6 (v) (srS p x y z q 0).length ((srS p x y z q 0).flatMap fdC)]).sat S w) (hxz : x.length = z.length) (h1 : OneV (p ++ (x ++ (y ++ (z ++ q))))) (hn : (p ++ (x ++ (y ++ (z ++ q)))).length ≤ 1048576) (ha : a = p.length) (hb : b = p.length + x.length + y.length) (hnn : n = x.length) :
    Tri Try.prog 90 #[v, i64 a, i64 b, i64 n, .func (.func 34) #[] #[]] w S fun u A => u = .tuple #[] ∧ A = [.own 70 6 (v) (srS p x y z q x.length).length ((srS p x y z q x.length).flatMap fdC)] := by
  refine Tri.enter (l := [v, i64 a, i64 b, i64 n, .func (.func 34) #[] #[]]) Try.func90 rfl Try.ntmps90 rfl [(0, v), (1, i64 a), (2, i64 b), (3, i64 n), (4, .func (.func 34) #[] #[])] (subA rfl) hS ?_
  simp only [List.length_append] at hn
  repeat first
    | (apply WL.q; exact rfl; exact rfl; exact rfl; (first | (apply EvW.assign; exact rfl)))
    | refine WC.seq ?_ | refine WC.region ?_ | refine WL.nil ?_ | refine WE.next ?_ | refine WC.block ?_
  refine WC.loopK (σ := Nat) [0, 1, 2, 3] (fun s => [(10, i64 s)]) (fun s => [.own 70 6 (v) (srS p x y z q s).length ((srS p x y z q s).flatMap fdC)]) (fun s => s ≤ x.length) (fun s => x.length - s) 0 (by (focus ((repeat (first | exact Pick.nil | (apply Pick.cons; exact rfl))); done))) (by (focus ((repeat (first | exact trivial | (refine ⟨rfl, ?_⟩))); done))) (fun _ h => h.keep (by repeat constructor)) (Nat.zero_le _) (fun s hs => ?_)
  obtain ⟨i, rfl⟩ : ∃ q, q = s := ⟨s, rfl⟩
  simp only [List.cons_append, List.nil_append] at hs ⊢
  by_cases hlt : (i : Int) < n
  · have hi : i < x.length := by omega
    obtain ⟨P, M, Q, hP, hM, e1, e2⟩ := srS_form p x y z q i hxz hi
    obtain ⟨s1, s2, s3, s4, _, _, s7⟩ := swp_two P (x.getD i default) (z.getD i default) M Q
    have hone : OneV (P ++ x.getD i default :: (M ++ z.getD i default :: Q)) := by rw [← e1]; exact h1.perm (srS_perm p x y z q i hxz (by omega))
    have ho1 : (x.getD i default).v.oneCell' = true := hone.mid
    have ho2 : (z.getD i default).v.oneCell' = true := hone _ (by simp)
    rw [e1]
    generalize x.getD i default = X at e1 e2 s1 s2 s3 s4 s7 ho1
    generalize z.getD i default = Z at e1 e2 s1 s2 s3 s4 s7 ho2
    have hL : ∀ c d : Fd, (P ++ c :: (M ++ d :: Q)).length = P.length + 1 + M.length + 1 + Q.length := fun c d => by simp only [List.length_append, List.length_cons]; omega
    have hL1 := hL X Z
    have hL2 := hL Z Z
    have hL3 := hL Z X
    have k1 : (a + (i : Int)).toNat = P.length := by omega
    have k2 : (b + (i : Int)).toNat = P.length + 1 + M.length := by omega
    repeat first
      | (apply WL.q; exact rfl; exact rfl; exact rfl; (first | (apply EvW.move; exact rfl) | (apply EvW.cmpT; exact rfl; exact rfl; exact rfl; omega)))
      | refine WC.seq ?_ | refine WC.region ?_ | refine WL.nil ?_ | refine WE.next ?_ | refine WC.block ?_ | refine WC.skip ?_ | refine WC.condT rfl ?_
    repeat refine WC.seq ?_
    refine WC.keep (xs := [.own 70 6 (v) ((P ++ X :: (M ++ Z :: Q))).length (((P ++ X :: (M ++ Z :: Q))).flatMap fdC)]) (by repeat constructor) ?_
    apply WC.par _ (fun c : Ch => [.own 70 6 (v) ((P ++ X :: (M ++ Z :: Q))).length (((P ++ X :: (M ++ Z :: Q))).flatMap fdC), .own 70 6 (v) ((P ++ Z :: (M ++ Z :: Q))).length (((P ++ Z :: (M ++ Z :: Q))).flatMap fdC), .own 70 6 (v) ((P ++ Z :: (M ++ X :: Q))).length (((P ++ Z :: (M ++ X :: Q))).flatMap fdC)]) [none, some 21, some 23] [some 21, some 23, none] [] Try.mixed
    · (focus ((repeat (first | exact Restr.nil | (apply Restr.keep; exact rfl; exact rfl) | (apply Restr.drop; exact rfl))); done))
    · intro c; exact (by repeat constructor)
    · exact rfl
    · decide +kernel
    · decide +kernel
    · intro c
      (apply Par.quiet _ [true, false, false]; exact rfl; decide +kernel; exact rfl; intro R; refine ⟨_, (by repeat constructor), ?_⟩;
           (first | (apply EvW.move; exact rfl)))
      (apply Par.quiet _ [true, false, false]; exact rfl; decide +kernel; exact rfl; intro R; refine ⟨_, (by repeat constructor), ?_⟩;
           (first | (apply EvW.move; exact rfl)))
      (apply Par.quiet _ [true, false, false]; exact rfl; decide +kernel; exact rfl; intro R; refine ⟨_, (by repeat constructor), ?_⟩;
           (first | (apply EvW.move; exact rfl)))
      (apply Par.quiet _ [true, false, false]; exact rfl; decide +kernel; exact rfl; intro R; refine ⟨_, (by repeat constructor), ?_⟩;
           (first | (apply EvW.arN; exact rfl; exact rfl; exact rfl; refine i64_in ?_ ?_ <;> omega)))
      (apply Par.quiet _ [false, false, false]; exact rfl; decide +kernel; exact rfl; intro R; refine ⟨_, (by repeat constructor), ?_⟩;
           (first | (apply EvW.move; exact rfl)))
      (apply Par.quiet _ [false, false, false]; exact rfl; decide +kernel; exact rfl; intro R; refine ⟨_, (by repeat constructor), ?_⟩;
           (first | (apply EvW.move; exact rfl)))
      (apply Par.quiet _ [false, false, false]; exact rfl; decide +kernel; exact rfl; intro R; refine ⟨_, (by repeat constructor), ?_⟩;
           (first | (apply EvW.move; exact rfl)))
      (apply Par.quiet _ [false, false, false]; exact rfl; decide +kernel; exact rfl; intro R; refine ⟨_, (by repeat constructor), ?_⟩;
           (first | (apply EvW.arN; exact rfl; exact rfl; exact rfl; refine i64_in ?_ ?_ <;> omega)))
      (apply Par.quiet _ [true, false, false]; exact rfl; decide +kernel; exact rfl; intro R; refine ⟨_, (by repeat constructor), ?_⟩;
           (first | (apply EvW.move; exact rfl)))
      (apply Par.quiet _ [true, false, false]; exact rfl; decide +kernel; exact rfl; intro R; refine ⟨_, (by repeat constructor), ?_⟩;
           (first | (apply EvW.move; exact rfl)))
      (apply Par.quiet _ [true, false, false]; exact rfl; decide +kernel; exact rfl; intro R; refine ⟨_, (by repeat constructor), ?_⟩;
           (first | (apply EvW.move; exact rfl)))
      (apply Par.quiet _ [true, false, false]; exact rfl; decide +kernel; exact rfl; intro R; refine ⟨_, (by repeat constructor), ?_⟩;
           (first | (apply EvW.arN; exact rfl; exact rfl; exact rfl; refine i64_in ?_ ?_ <;> omega)))
      (apply Par.quiet _ [true, false, false]; exact rfl; decide +kernel; exact rfl; intro R; refine ⟨_, (by repeat constructor), ?_⟩;
           (first | (apply EvW.idxOwn; exact rfl; exact rfl; exact UndC.eq; exact SzC.eq; (focus ((repeat constructor); done)); omega; omega)))
      apply Par.quiet _ [true, false, false]
      · exact rfl
      · decide +kernel
      · exact rfl
      · intro R
        refine ⟨_, (by repeat constructor), ?_⟩
        (apply EvW.ldFd Z; exact rfl; exact AggC.eq; exact SzC.eq; exact .head; (rw [k2]; omega); (rw [k2]; exact s2))
      (apply Par.quiet _ [true, false, false]; exact rfl; decide +kernel; exact rfl; intro R; refine ⟨_, (by repeat constructor), ?_⟩;
           (first | (apply EvW.move; exact rfl)))
      (apply Par.quiet _ [true, false, false]; exact rfl; decide +kernel; exact rfl; intro R; refine ⟨_, (by repeat constructor), ?_⟩;
           (first | (apply EvW.move; exact rfl)))
      (apply Par.quiet _ [true, false, false]; exact rfl; decide +kernel; exact rfl; intro R; refine ⟨_, (by repeat constructor), ?_⟩;
           (first | (apply EvW.move; exact rfl)))
      (apply Par.quiet _ [true, false, false]; exact rfl; decide +kernel; exact rfl; intro R; refine ⟨_, (by repeat constructor), ?_⟩;
           (first | (apply EvW.arN; exact rfl; exact rfl; exact rfl; refine i64_in ?_ ?_ <;> omega)))
      (apply Par.quiet _ [true, false, false]; exact rfl; decide +kernel; exact rfl; intro R; refine ⟨_, (by repeat constructor), ?_⟩;
           (first | (apply EvW.idxOwn; exact rfl; exact rfl; exact UndC.eq; exact SzC.eq; (focus ((repeat constructor); done)); omega; omega)))
      apply Par.quiet _ [true, false, false]
      · exact rfl
      · decide +kernel
      · exact rfl
      · intro R
        refine ⟨_, (by repeat constructor), ?_⟩
        (apply EvW.ldFd X; exact rfl; exact AggC.eq; exact SzC.eq; exact .head; (rw [k1]; omega); (rw [k1]; exact s1))
      (apply Par.quiet _ [true, false, false]; exact rfl; decide +kernel; exact rfl; intro R; refine ⟨_, (by repeat constructor), ?_⟩;
           (first | (apply EvW.idxOwn; exact rfl; exact rfl; exact UndC.eq; exact SzC.eq; (focus ((repeat constructor); done)); omega; omega)))
      apply Par.eff _ [true, false, false] [false, true, false] [false, false, false]
      · exact rfl
      · exact rfl
      · decide +kernel
      · intro R
        refine ⟨_, _, _, (by repeat constructor), (by repeat constructor), (by repeat constructor), ?_⟩
        (apply EffW.stFd Z; exact rfl; exact rfl; exact SzC.eq; exact ho2; (rw [k1]; omega); (rw [k1]; exact s3))
      (apply Par.quiet _ [false, true, false]; exact rfl; decide +kernel; exact rfl; intro R; refine ⟨_, (by repeat constructor), ?_⟩;
           (first | (apply EvW.idxOwn; exact rfl; exact rfl; exact UndC.eq; exact SzC.eq; (focus ((repeat constructor); done)); omega; omega)))
      apply Par.eff _ [false, true, false] [false, false, true] [false, false, false]
      · exact rfl
      · exact rfl
      · decide +kernel
      · intro R
        refine ⟨_, _, _, (by repeat constructor), (by repeat constructor), (by repeat constructor), ?_⟩
        (apply EffW.stFd X; exact rfl; exact rfl; exact SzC.eq; exact ho1; (rw [k2]; omega); (rw [k2]; exact s4))
      exact Par.nil
    · repeat (first | exact AllN.nil | (apply AllN.cons; (intro c x; (repeat (first | exact IndA.nil | (apply IndA.skip; decide +kernel) | apply IndA.same))))) 
    · repeat (first | exact AllN.nil | (apply AllN.cons; (intro c x; (repeat (first | exact IndT.nil | (apply IndT.skip; decide +kernel) | apply IndT.same))))) 
    · exact fun _ => rfl
    intro c
    refine ⟨_, (by repeat constructor), ?_⟩
    apply WE.writ
    · (focus ((repeat (first | exact Writ.nil | apply Writ.some | apply Writ.none)); done))
    rw [← e2]
    repeat first
      | (apply WL.q; exact rfl; exact rfl; exact rfl; (first | (apply EvW.move; exact rfl) | (apply EvW.assign; exact rfl) | (apply EvW.arN; exact rfl; exact rfl; exact rfl; refine i64_in ?_ ?_ <;> omega)))
      | refine WC.region ?_ | refine WL.nil ?_ | refine WE.next ?_ | refine WE.out ?_
    exact WE.again (s := i) (i + 1) (by omega) (by (focus ((repeat (first | exact trivial | (refine ⟨rfl, ?_⟩))); done))) (fun _ h => (by (try simp only []); exact h.keep (by repeat constructor))) (by (try simp only []); omega)
  · obtain rfl : i = x.length := by omega
    repeat first
      | (apply WL.q; exact rfl; exact rfl; exact rfl; (first | (apply EvW.move; exact rfl) | (apply EvW.cmpF; exact rfl; exact rfl; exact rfl; omega)))
      | refine WC.seq ?_ | refine WC.region ?_ | refine WL.nil ?_ | refine WE.next ?_ | refine WC.exit ?_ | refine WE.pass ?_ | refine WE.hit ?_ | refine WC.condF rfl ?_
    refine WE.keep (xs := [.own 70 6 (v) (srS p x y z q x.length).length ((srS p x y z q x.length).flatMap fdC)]) (by repeat constructor) ?_
    first | refine WE.end0 rfl ?_ | refine WE.ret0 rfl ?_
    exact ⟨rfl, rfl⟩
end Go.Proofs.Ytknclcjmfgdphaa
namespace Go.Proofs.Ytknclcjmfgdphaa
open Go.RowKit Go.BK
theorem rotate_spec (v : Value) (p l r q : List Fd) (a m b : Int) (w : World) (S : BSet) (hS : (sepL [.own 70 6 (v) (p ++ (l ++ (r ++ q))).length ((p ++ (l ++ (r ++ q))).flatMap fdC)]).sat S w) (h1 : OneV (p ++ (l ++ (r ++ q)))) (hn : (p ++ (l ++ (r ++ q))).length ≤ 1048576) (hl0 : l ≠ []) (hr0 : r ≠ []) (ha : a = p.length) (hm : m = p.length + l.length) (hb : b = p.length + l.length + r.length) :
    Tri Try.prog 87 #[v, i64 a, i64 m, i64 b, .func (.func 34) #[] #[]] w S fun u A => u = .tuple #[] ∧ A = [.own 70 6 (v) (p ++ (r ++ (l ++ q))).length ((p ++ (r ++ (l ++ q))).flatMap fdC)] := by
  refine Tri.enter (l := [v, i64 a, i64 m, i64 b, .func (.func 34) #[] #[]]) Try.func87 rfl Try.ntmps87 rfl [(0, v), (1, i64 a), (2, i64 m), (3, i64 b), (4, .func (.func 34) #[] #[])] (subA rfl) hS ?_
  have hln := hn
  simp only [List.length_append] at hn
  have hl1 : 0 < l.length := List.length_pos_iff.2 hl0
  have hr1 : 0 < r.length := List.length_pos_iff.2 hr0
  repeat first
    | (apply WL.q; exact rfl; exact rfl; exact rfl; (first | (apply EvW.move; exact rfl) | (apply EvW.assign; exact rfl) | (apply EvW.arN; exact rfl; exact rfl; exact rfl; refine i64_in ?_ ?_ <;> omega)))
    | refine WC.seq ?_ | refine WC.region ?_ | refine WL.nil ?_ | refine WE.next ?_ | refine WC.block ?_
  rw [show m - a = (l.length : Int) by omega, show b - m = (r.length : Int) by omega]
  refine WC.loopK (σ := List Fd × List Fd × List Fd × List Fd) [0, 2, 4] (fun s => [(10, i64 s.2.1.length), (11, i64 s.2.2.1.length)]) (fun s => [.own 70 6 (v) (p ++ (s.1 ++ (s.2.1 ++ (s.2.2.1 ++ (s.2.2.2 ++ q))))).length ((p ++ (s.1 ++ (s.2.1 ++ (s.2.2.1 ++ (s.2.2.2 ++ q))))).flatMap fdC)]) (fun s => s.1.length + s.2.1.length = l.length ∧ 0 < s.2.1.length ∧ 0 < s.2.2.1.length ∧ s.1 ++ (s.2.2.1 ++ (s.2.1 ++ s.2.2.2)) = r ++ l ∧ (p ++ (s.1 ++ (s.2.1 ++ (s.2.2.1 ++ (s.2.2.2 ++ q))))).Perm (p ++ (l ++ (r ++ q)))) (fun s => s.2.1.length + s.2.2.1.length) ([], l, r, []) (by (focus ((repeat (first | exact Pick.nil | (apply Pick.cons; exact rfl))); done))) (by (focus ((repeat (first | exact trivial | (refine ⟨rfl, ?_⟩))); done))) (fun _ h => h.keep (by repeat constructor)) ⟨by simp, hl1, hr1, by simp, List.Perm.refl _⟩ (fun s hs => ?_)
  obtain ⟨A, l2, r2, B⟩ := s
  simp only [List.cons_append, List.nil_append] at hs ⊢
  obtain ⟨hA, hl2, hr2, htg, hpm⟩ := hs
  have hone := h1.perm hpm
  have hlen := hpm.length_eq
  simp only [List.length_append] at hlen
  by_cases hne : (l2.length : Int) = r2.length
  · have e : p ++ (A ++ (l2 ++ (r2 ++ (B ++ q)))) = srS (p ++ A) l2 [] r2 (B ++ q) 0 := by rw [srS_0]; simp [List.append_assoc]
    have hone2 : OneV ((p ++ A) ++ (l2 ++ ([] ++ (r2 ++ (B ++ q))))) := by have h := hone; rw [e, srS_0] at h; exact h
    rw [e]
    repeat first
      | (apply WL.q; exact rfl; exact rfl; exact rfl; (first | (apply EvW.move; exact rfl) | (apply EvW.cmpF; exact rfl; exact rfl; exact rfl; omega) | (apply EvW.arN; exact rfl; exact rfl; exact rfl; refine i64_in ?_ ?_ <;> omega)))
      | refine WC.seq ?_ | refine WC.region ?_ | refine WL.nil ?_ | refine WE.next ?_ | refine WC.exit ?_ | refine WE.pass ?_ | refine WE.hit ?_ | refine WC.condF rfl ?_
    try refine WL.wanted rfl rfl rfl ?_
    apply WL.callA ([.own 70 6 (v) (srS (p ++ A) l2 [] r2 (B ++ q) 0).length ((srS (p ++ A) l2 [] r2 (B ++ q) 0).flatMap fdC)])
    · exact rfl
    · exact rfl
    · exact fun w => Try.call90 _ w
    · (focus ((repeat constructor); done))
    · exact fun w1 S1 hS1 hs1 ho1 => swapRange_spec v (p ++ A) l2 [] r2 (B ++ q) (m - l2.length) m l2.length w1 S1 hS1 (by omega) hone2 (by simp only [List.length_append, List.length_nil]; omega) (by rw [List.length_append]; omega) (by rw [List.length_append]; simp only [List.length_nil]; omega) rfl
    rintro _ _ ⟨rfl, rfl⟩
    first | refine WL.app4 ?_ | refine WL.app3 ?_ | refine WL.app2 ?_ | refine WL.app1 ?_ | refine WL.app0 ?_ | skip
    rw [srS_all _ _ _ _ _ (by omega)]
    have e2 : (p ++ A) ++ (r2 ++ ([] ++ (l2 ++ (B ++ q)))) = p ++ (r ++ (l ++ q)) := by
      have : (p ++ A) ++ (r2 ++ ([] ++ (l2 ++ (B ++ q)))) = p ++ ((A ++ (r2 ++ (l2 ++ B))) ++ q) := by simp [List.append_assoc]
      rw [this, htg]; simp [List.append_assoc]
    rw [e2]
    repeat first
      | refine WL.nil ?_
    refine WE.keep (xs := [.own 70 6 (v) (p ++ (r ++ (l ++ q))).length ((p ++ (r ++ (l ++ q))).flatMap fdC)]) (by repeat constructor) ?_
    first | refine WE.end0 rfl ?_ | refine WE.ret0 rfl ?_
    exact ⟨rfl, rfl⟩
  by_cases hgt : (l2.length : Int) > r2.length
  · have hx := List.length_take (i := r2.length) (l := l2)
    have hy := List.length_drop (i := r2.length) (l := l2)
    have hsp := List.take_append_drop r2.length l2
    generalize l2.take r2.length = X at hx hsp
    generalize l2.drop r2.length = Y at hy hsp
    have e : p ++ (A ++ (l2 ++ (r2 ++ (B ++ q)))) = srS (p ++ A) X Y r2 (B ++ q) 0 := by rw [srS_0, ← hsp]; simp [List.append_assoc]
    have hone2 : OneV ((p ++ A) ++ (X ++ (Y ++ (r2 ++ (B ++ q))))) := by have h := hone; rw [e, srS_0] at h; exact h
    have hpm2 := srS_perm (p ++ A) X Y r2 (B ++ q) X.length (by omega) (Nat.le_refl _)
    rw [e]
    repeat first
      | (apply WL.q; exact rfl; exact rfl; exact rfl; (first | (apply EvW.move; exact rfl) | (apply EvW.cmpT; exact rfl; exact rfl; exact rfl; omega) | (apply EvW.arN; exact rfl; exact rfl; exact rfl; refine i64_in ?_ ?_ <;> omega)))
      | refine WC.seq ?_ | refine WC.region ?_ | refine WL.nil ?_ | refine WE.next ?_ | refine WC.block ?_ | refine WC.skip ?_ | refine WC.condT rfl ?_
    try refine WL.wanted rfl rfl rfl ?_
    apply WL.callA ([.own 70 6 (v) (srS (p ++ A) X Y r2 (B ++ q) 0).length ((srS (p ++ A) X Y r2 (B ++ q) 0).flatMap fdC)])
    · exact rfl
    · exact rfl
    · exact fun w => Try.call90 _ w
    · (focus ((repeat constructor); done))
    · exact fun w1 S1 hS1 hs1 ho1 => swapRange_spec v (p ++ A) X Y r2 (B ++ q) (m - l2.length) m r2.length w1 S1 hS1 (by omega) hone2 (by simp only [List.length_append]; omega) (by rw [List.length_append]; omega) (by rw [List.length_append]; omega) (by omega)
    rintro _ _ ⟨rfl, rfl⟩
    first | refine WL.app4 ?_ | refine WL.app3 ?_ | refine WL.app2 ?_ | refine WL.app1 ?_ | refine WL.app0 ?_ | skip
    rw [srS_all _ _ _ _ _ (by omega)] at hpm2 ⊢
    have e2 : (p ++ A) ++ (r2 ++ (Y ++ (X ++ (B ++ q)))) = p ++ ((A ++ r2) ++ (Y ++ (X ++ (B ++ q)))) := by simp [List.append_assoc]
    have hpm3 : (p ++ ((A ++ r2) ++ (Y ++ (X ++ (B ++ q))))).Perm (p ++ (A ++ (l2 ++ (r2 ++ (B ++ q))))) := by rw [e, srS_0, ← e2]; exact hpm2
    rw [e2]
    repeat first
      | (apply WL.q; exact rfl; exact rfl; exact rfl; (first | (apply EvW.move; exact rfl) | (apply EvW.assign; exact rfl) | (apply EvW.arN; exact rfl; exact rfl; exact rfl; refine i64_in ?_ ?_ <;> omega)))
      | refine WC.region ?_ | refine WL.nil ?_ | refine WE.next ?_ | refine WE.out ?_
    rw [show (l2.length : Int) - r2.length = Y.length by omega, show (r2.length : Int) = X.length by omega]
    exact WE.again (s := (A, l2, r2, B)) ((A ++ r2, Y, X, B)) ⟨by simp only [List.length_append]; omega, by simp only []; omega, by simp only []; omega, by simp only []; rw [← htg, ← hsp]; simp [List.append_assoc], hpm3.trans hpm⟩ (by (focus ((repeat (first | exact trivial | (refine ⟨rfl, ?_⟩))); done))) (fun _ h => (by (try simp only []); exact h.keep (by repeat constructor))) (by (try simp only []); omega)
  · have hx := List.length_take (i := r2.length - l2.length) (l := r2)
    have hy := List.length_drop (i := r2.length - l2.length) (l := r2)
    have hsp := List.take_append_drop (r2.length - l2.length) r2
    generalize r2.take (r2.length - l2.length) = X at hx hsp
    generalize r2.drop (r2.length - l2.length) = Y at hy hsp
    have e : p ++ (A ++ (l2 ++ (r2 ++ (B ++ q)))) = srS (p ++ A) l2 X Y (B ++ q) 0 := by rw [srS_0, ← hsp]; simp [List.append_assoc]
    have hone2 : OneV ((p ++ A) ++ (l2 ++ (X ++ (Y ++ (B ++ q))))) := by have h := hone; rw [e, srS_0] at h; exact h
    have hpm2 := srS_perm (p ++ A) l2 X Y (B ++ q) l2.length (by omega) (Nat.le_refl _)
    rw [e]
    repeat first
      | (apply WL.q; exact rfl; exact rfl; exact rfl; (first | (apply EvW.move; exact rfl) | (apply EvW.cmpT; exact rfl; exact rfl; exact rfl; omega) | (apply EvW.cmpF; exact rfl; exact rfl; exact rfl; omega) | (apply EvW.arN; exact rfl; exact rfl; exact rfl; refine i64_in ?_ ?_ <;> omega)))
      | refine WC.seq ?_ | refine WC.region ?_ | refine WL.nil ?_ | refine WE.next ?_ | refine WC.block ?_ | refine WC.skip ?_ | refine WC.condT rfl ?_ | refine WC.condF rfl ?_
    try refine WL.wanted rfl rfl rfl ?_
    apply WL.callA ([.own 70 6 (v) (srS (p ++ A) l2 X Y (B ++ q) 0).length ((srS (p ++ A) l2 X Y (B ++ q) 0).flatMap fdC)])
    · exact rfl
    · exact rfl
    · exact fun w => Try.call90 _ w
    · (focus ((repeat constructor); done))
    · exact fun w1 S1 hS1 hs1 ho1 => swapRange_spec v (p ++ A) l2 X Y (B ++ q) (m - l2.length) (m + r2.length - l2.length) l2.length w1 S1 hS1 (by omega) hone2 (by simp only [List.length_append]; omega) (by rw [List.length_append]; omega) (by rw [List.length_append]; omega) rfl
    rintro _ _ ⟨rfl, rfl⟩
    first | refine WL.app4 ?_ | refine WL.app3 ?_ | refine WL.app2 ?_ | refine WL.app1 ?_ | refine WL.app0 ?_ | skip
    rw [srS_all _ _ _ _ _ (by omega)] at hpm2 ⊢
    have e2 : (p ++ A) ++ (Y ++ (X ++ (l2 ++ (B ++ q)))) = p ++ (A ++ (Y ++ (X ++ ((l2 ++ B) ++ q)))) := by simp [List.append_assoc]
    have hpm3 : (p ++ (A ++ (Y ++ (X ++ ((l2 ++ B) ++ q))))).Perm (p ++ (A ++ (l2 ++ (r2 ++ (B ++ q))))) := by rw [e, srS_0, ← e2]; exact hpm2
    rw [e2]
    repeat first
      | (apply WL.q; exact rfl; exact rfl; exact rfl; (first | (apply EvW.move; exact rfl) | (apply EvW.assign; exact rfl) | (apply EvW.arN; exact rfl; exact rfl; exact rfl; refine i64_in ?_ ?_ <;> omega)))
      | refine WC.region ?_ | refine WL.nil ?_ | refine WE.next ?_ | refine WE.out ?_
    rw [show (r2.length : Int) - l2.length = X.length by omega, show (l2.length : Int) = Y.length by omega]
    exact WE.again (s := (A, l2, r2, B)) ((A, Y, X, l2 ++ B)) ⟨by simp only []; omega, by simp only []; omega, by simp only []; omega, by simp only []; rw [← htg, ← hsp]; simp [List.append_assoc], hpm3.trans hpm⟩ (by (focus ((repeat (first | exact trivial | (refine ⟨rfl, ?_⟩))); done))) (fun _ h => (by (try simp only []); exact h.keep (by repeat constructor))) (by (try simp only []); omega)
end Go.Proofs.Ytknclcjmfgdphaa
