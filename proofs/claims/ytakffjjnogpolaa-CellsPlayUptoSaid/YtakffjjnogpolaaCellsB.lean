/- A memory of cells: what its calls do. -/
import Derived.Test.YtakffjjnogpolaaCellsA
namespace Go.Proofs.Ytakffjjnogpolaa
open Go.RowKit Go.BK

theorem getD_some {α : Type} {l : List α} {d : α} {i : Nat} (h : i < l.length) : l[i]? = some (l.getD i d) := by
  rw [List.getD_eq_getElem?_getD, List.getElem?_eq_getElem h]; rfl
theorem get_page {x0 x1 x2 x3 : Value} {ps : List (List UInt8)} {r : List Value} {i : Nat} (h : i < ps.length) : getL (x0 :: x1 :: x2 :: x3 :: (ps.map str ++ r)) (4 + i * 1) = some (str (ps.getD i [])) := by
  rw [show 4 + i * 1 = i + 1 + 1 + 1 + 1 by omega]
  show getL (ps.map str ++ r) i = _
  rw [getL_app _ _ _ (by rw [List.length_map]; exact h), List.getElem?_map, getD_some (d := []) h]; rfl
theorem get_worn {x0 x1 x2 x3 : Value} {ps : List (List UInt8)} {ws : List Int} {i : Nat} (hp : ps.length = 24) (h : i < ws.length) : getL (x0 :: x1 :: x2 :: x3 :: (ps.map str ++ ws.map i64)) (28 + i * 1) = some (i64 (ws.getD i 0)) := by
  rw [show 28 + i * 1 = (i + (ps.map str).length) + 1 + 1 + 1 + 1 by rw [List.length_map, hp]; omega]
  show getL (ps.map str ++ ws.map i64) (i + (ps.map str).length) = _
  rw [getL_behind, getL_eq, List.getElem?_map, getD_some (d := 0) h]; rfl
theorem at_page {x0 x1 x2 x3 : Value} {ps : List (List UInt8)} {r : List Value} {i : Nat} (h : i < ps.length) : (x0 :: x1 :: x2 :: x3 :: (ps.map str ++ r))[4 + i * 1]? = some (str (ps.getD i [])) := by rw [← getL_eq]; exact get_page h
theorem at_worn {x0 x1 x2 x3 : Value} {ps : List (List UInt8)} {ws : List Int} (i : Nat) (hp : ps.length = 24) (h : i < ws.length) : (x0 :: x1 :: x2 :: x3 :: (ps.map str ++ ws.map i64))[28 + i * 1]? = some (i64 (ws.getD i 0)) := by rw [← getL_eq]; exact get_worn hp h
theorem set_page {x0 x1 x2 x3 : Value} {ps : List (List UInt8)} {r : List Value} {i : Nat} {t : List UInt8} (h : i < ps.length) : SetMany (x0 :: x1 :: x2 :: x3 :: (ps.map str ++ r)) (4 + i * 1) [str t] (x0 :: x1 :: x2 :: x3 :: ((ps.set i t).map str ++ r)) := by
  rw [show 4 + i * 1 = i + 1 + 1 + 1 + 1 by omega, List.map_set]
  exact .succ (.succ (.succ (.succ (SetMany.one (ps.map str) i (by rw [List.length_map]; exact h)))))
theorem set_worn {x0 x1 x2 x3 : Value} {ps : List (List UInt8)} {ws : List Int} {i : Nat} {t : Int} (hp : ps.length = 24) (h : i < ws.length) : SetMany (x0 :: x1 :: x2 :: x3 :: (ps.map str ++ ws.map i64)) (28 + i * 1) [i64 t] (x0 :: x1 :: x2 :: x3 :: (ps.map str ++ (ws.set i t).map i64)) := by
  rw [show 28 + i * 1 = (i + (ps.map str).length) + 1 + 1 + 1 + 1 by rw [List.length_map, hp]; omega, List.map_set]
  refine .succ (.succ (.succ (.succ (SetMany.behind ?_ (ps.map str)))))
  have := SetMany.one (v := i64 t) (r := []) (ws.map i64) i (by rw [List.length_map]; exact h)
  rwa [List.append_nil, List.append_nil] at this
theorem place_zero {m : Mem} {page pos : Int} (h : m.place page pos = 0) : m.off = false ∧ (0 ≤ page ∧ page < 24) ∧ (0 ≤ pos ∧ pos ≤ 4096) := by
  unfold Mem.place at h
  split at h
  · exact absurd h (by decide)
  · rename_i ho
    split at h
    · exact absurd h (by decide)
    · exact ⟨by simpa using ho, by omega, by omega⟩
def Mem.page (m : Mem) (p : Int) : List UInt8 := m.pages.getD p.toNat []
def Mem.read (m : Mem) (p pos n : Int) : List UInt8 × Int := if m.place p pos ≠ 0 then ([], m.place p pos) else if n < 0 ∨ 4096 - pos < n then ([], 2) else (((m.page p).take (pos + n).toNat).drop pos.toNat, 0)
def Mem.bad (m : Mem) (p pos : Int) (t : List UInt8) : Int := if m.place p pos ≠ 0 then m.place p pos else if (t.length : Int) > 4096 - pos then 2 else if ((m.page p).take (pos + t.length).toNat).drop pos.toNat ≠ bareB t.length then 15 else 0
def Mem.burnt (m : Mem) (p pos : Int) (t : List UInt8) (n : Int) : Mem := { m with pages := m.pages.set p.toNat ((m.page p).take pos.toNat ++ t.take n.toNat ++ (m.page p).drop (pos + n).toNat) }
def Mem.erased (m : Mem) (p n : Int) : Mem := { m with pages := m.pages.set p.toNat (bareB n.toNat ++ (m.page p).drop n.toNat), worn := m.worn.set p.toNat (m.worn.getD p.toNat 0 + 1) }
def bareL (P : List UInt8) : Nat := (P.reverse.dropWhile (· == 255)).length
def Mem.bare (m : Mem) (p : Int) : Int := if p < 0 ∨ 24 ≤ p then 0 else bareL (m.page p)
def Mem.worn' (m : Mem) (p : Int) : Int := if p < 0 ∨ 24 ≤ p then 0 else m.worn.getD p.toNat 0
def Mem.again (m : Mem) : Mem := ⟨0, 0, false, m.pages, m.worn⟩
theorem Mem.wf.page {m : Mem} {K : Nat} (h : m.wf K) {p : Int} (h0 : 0 ≤ p) (h1 : p < 24) : p.toNat < m.pages.length ∧ (m.page p).length = 4096 := ⟨by rw [h.pl]; omega, h.p _ (by omega)⟩
theorem bareL_nil : bareL [] = 0 := rfl
theorem bareL_255 (l : List UInt8) : bareL (l ++ [255]) = bareL l := by simp [bareL]
theorem bareL_ne (l : List UInt8) (c : UInt8) (h : c ≠ 255) : bareL (l ++ [c]) = l.length + 1 := by simp [bareL, h]
theorem read_spec (b : Nat) (o : Option Nat) (m : Mem) (K : Nat) (p pos n : Int) (w : World) (S : BSet) (hS : (sepL [.blk b (Value.map (o) :: i64 (m).ar :: i64 (m).ac :: Value.bool (m).off :: ((m).pages.map str ++ (m).worn.map i64)).toArray 41]).sat S w) (hm : m.wf K) :
    Tri Try.prog 12 #[ptr b 0, i64 p, i64 pos, i64 n] w S fun u A => u = .tuple #[str (m.read p pos n).1, i64 (m.read p pos n).2] ∧ A = [.blk b (Value.map (o) :: i64 (m).ar :: i64 (m).ac :: Value.bool (m).off :: ((m).pages.map str ++ (m).worn.map i64)).toArray 41] := by
  refine Tri.enter (l := [ptr b 0, i64 p, i64 pos, i64 n]) Try.func12 rfl Try.ntmps12 rfl [(0, ptr b 0), (1, i64 p), (2, i64 pos), (3, i64 n)] (subA rfl) hS ?_
  unfold Mem.read
  repeat first
    | (apply WL.q; exact rfl; exact rfl; exact rfl; (first | (apply EvW.move; exact rfl) | (apply EvW.assign; exact rfl)))
    | refine WC.seq ?_ | refine WC.region ?_ | refine WL.nil ?_ | refine WE.next ?_
  try refine WL.wanted rfl rfl rfl ?_
  apply WL.callA ([.blk b (Value.map (o) :: i64 (m).ar :: i64 (m).ac :: Value.bool (m).off :: ((m).pages.map str ++ (m).worn.map i64)).toArray 41])
  · exact rfl
  · exact rfl
  · exact fun w => Try.call29 _ w
  · (focus ((repeat (first | exact TakeL.nil | apply TakeL.cons | exact Take.head | apply Take.tail)); done))
  · exact fun w1 S1 hS1 hs1 ho1 => place_spec b o m p pos w1 S1 hS1
  rintro _ _ ⟨rfl, rfl⟩
  first | refine WL.app4 ?_ | refine WL.app3 ?_ | refine WL.app2 ?_ | refine WL.app1 ?_ | refine WL.app0 ?_ | skip
  by_cases hpl : m.place p pos = 0
  rotate_left
  · rw [if_pos hpl]
    repeat first
      | (apply WL.q; exact rfl; exact rfl; exact rfl; (first | (apply EvW.move; exact rfl) | (apply EvW.assign; exact rfl) | (apply EvW.cmpT; exact rfl; exact rfl; exact rfl; omega)))
      | refine WC.seq ?_ | refine WC.region ?_ | refine WL.nil ?_ | refine WE.next ?_ | refine WC.condT rfl ?_ | refine WC.ret ?_ | refine WE.passRet ?_
    refine WE.retN (l := [8, 9]) rfl rfl rfl ?_
    exact ⟨rfl, rfl⟩
  rw [if_neg (fun h => h hpl)]
  obtain ⟨hoff, hp, hpos⟩ := place_zero hpl
  obtain ⟨hp1, hp2⟩ := hm.page hp.1 hp.2
  by_cases h1 : n < 0
  · rw [if_pos (.inl h1)]
    repeat first
      | (apply WL.q; exact rfl; exact rfl; exact rfl; (first | (apply EvW.move; exact rfl) | (apply EvW.assign; exact rfl) | (apply EvW.cmpT; exact rfl; exact rfl; exact rfl; omega) | (apply EvW.cmpF; exact rfl; exact rfl; exact rfl; omega) | (apply EvW.pickT; exact rfl; exact rfl)))
      | refine WC.seq ?_ | refine WC.region ?_ | refine WL.nil ?_ | refine WE.next ?_ | refine WC.skip ?_ | refine WC.condT rfl ?_ | refine WC.condF rfl ?_ | refine WC.ret ?_ | refine WE.passRet ?_ | refine WL.unwanted rfl rfl rfl rfl ?_
    refine WE.retN (l := [8, 9]) rfl rfl rfl ?_
    exact ⟨rfl, rfl⟩
  by_cases h2 : 4096 - pos < n
  · rw [if_pos (.inr h2)]
    repeat first
      | (apply WL.q; exact rfl; exact rfl; exact rfl; (first | (apply EvW.move; exact rfl) | (apply EvW.assign; exact rfl) | (apply EvW.cmpT; exact rfl; exact rfl; exact rfl; omega) | (apply EvW.cmpF; exact rfl; exact rfl; exact rfl; omega) | (apply EvW.arN; exact rfl; exact rfl; exact rfl; refine i64_in ?_ ?_ <;> omega) | (apply EvW.pickF; exact rfl; exact rfl)))
      | refine WC.seq ?_ | refine WC.region ?_ | refine WL.nil ?_ | refine WE.next ?_ | refine WC.skip ?_ | refine WC.condT rfl ?_ | refine WC.condF rfl ?_ | refine WC.ret ?_ | refine WE.passRet ?_ | refine WL.wanted rfl rfl rfl ?_
    refine WE.retN (l := [8, 9]) rfl rfl rfl ?_
    exact ⟨rfl, rfl⟩
  rw [if_neg (by omega)]
  repeat first
    | (apply WL.q; exact rfl; exact rfl; exact rfl; (first | (apply EvW.move; exact rfl) | (apply EvW.assign; exact rfl) | (apply EvW.nilPtr; exact rfl) | (apply EvW.fieldAddr0; exact rfl; exact FldC.eq) | (apply EvW.cmpF; exact rfl; exact rfl; exact rfl; omega) | (apply EvW.arN; exact rfl; exact rfl; exact rfl; refine i64_in ?_ ?_ <;> omega) | (apply EvW.pickF; exact rfl; exact rfl) | (apply EvW.idxArr; exact rfl; exact rfl; exact UndC.eq; exact SzC.eq; omega; omega)))
    | refine WC.seq ?_ | refine WC.region ?_ | refine WL.nil ?_ | refine WE.next ?_ | refine WC.skip ?_ | refine WC.condF rfl ?_ | refine WL.wanted rfl rfl rfl ?_
  try refine WL.wanted rfl rfl rfl ?_
  (apply WL.q; exact rfl; exact rfl; exact rfl; (apply EvW.ldBlk (q := str (m.page p)); exact rfl; exact ScalC.eq; (focus ((repeat (first | exact Take.head | apply Take.tail)); done)); (exact at_page hp1)))
  repeat first
    | (apply WL.q; exact rfl; exact rfl; exact rfl; (first | (apply EvW.move; exact rfl) | (apply EvW.assign; exact rfl) | (apply EvW.arN; exact rfl; exact rfl; exact rfl; refine i64_in ?_ ?_ <;> omega) | (apply EvW.sliceS; exact rfl; exact UndC.eq; exact rfl; exact rfl; omega; omega; omega)))
    | refine WL.nil ?_ | refine WE.next ?_ | refine WC.ret ?_
  refine WE.retN (l := [8, 9]) rfl rfl rfl ?_
  exact ⟨rfl, rfl⟩
theorem worn_spec (b : Nat) (o : Option Nat) (m : Mem) (K : Nat) (p : Int) (w : World) (S : BSet) (hS : (sepL [.blk b (Value.map (o) :: i64 (m).ar :: i64 (m).ac :: Value.bool (m).off :: ((m).pages.map str ++ (m).worn.map i64)).toArray 41]).sat S w) (hm : m.wf K) :
    Tri Try.prog 27 #[ptr b 0, i64 p] w S fun u A => u = i64 (m.worn' p) ∧ A = [.blk b (Value.map (o) :: i64 (m).ar :: i64 (m).ac :: Value.bool (m).off :: ((m).pages.map str ++ (m).worn.map i64)).toArray 41] := by
  refine Tri.enter (l := [ptr b 0, i64 p]) Try.func27 rfl Try.ntmps27 rfl [(0, ptr b 0), (1, i64 p)] (subA rfl) hS ?_
  unfold Mem.worn'
  by_cases h1 : p < 0
  · rw [if_pos (.inl h1)]
    repeat first
      | (apply WL.q; exact rfl; exact rfl; exact rfl; (first | (apply EvW.move; exact rfl) | (apply EvW.assign; exact rfl) | (apply EvW.cmpT; exact rfl; exact rfl; exact rfl; omega) | (apply EvW.pickT; exact rfl; exact rfl)))
      | refine WC.seq ?_ | refine WC.region ?_ | refine WL.nil ?_ | refine WE.next ?_ | refine WC.condT rfl ?_ | refine WC.ret ?_ | refine WE.passRet ?_ | refine WL.unwanted rfl rfl rfl rfl ?_
    refine WE.ret1 rfl rfl ?_
    exact ⟨rfl, rfl⟩
  by_cases h2 : 24 ≤ p
  · rw [if_pos (.inr h2)]
    repeat first
      | (apply WL.q; exact rfl; exact rfl; exact rfl; (first | (apply EvW.move; exact rfl) | (apply EvW.assign; exact rfl) | (apply EvW.cmpT; exact rfl; exact rfl; exact rfl; omega) | (apply EvW.cmpF; exact rfl; exact rfl; exact rfl; omega) | (apply EvW.pickF; exact rfl; exact rfl)))
      | refine WC.seq ?_ | refine WC.region ?_ | refine WL.nil ?_ | refine WE.next ?_ | refine WC.condT rfl ?_ | refine WC.ret ?_ | refine WE.passRet ?_ | refine WL.wanted rfl rfl rfl ?_
    refine WE.ret1 rfl rfl ?_
    exact ⟨rfl, rfl⟩
  rw [if_neg (by omega)]
  repeat first
    | (apply WL.q; exact rfl; exact rfl; exact rfl; (first | (apply EvW.move; exact rfl) | (apply EvW.assign; exact rfl) | (apply EvW.nilPtr; exact rfl) | (apply EvW.fieldAddr0; exact rfl; exact FldC.eq) | (apply EvW.cmpF; exact rfl; exact rfl; exact rfl; omega) | (apply EvW.pickF; exact rfl; exact rfl) | (apply EvW.idxArr; exact rfl; exact rfl; exact UndC.eq; exact SzC.eq; omega; omega)))
    | refine WC.seq ?_ | refine WC.region ?_ | refine WL.nil ?_ | refine WE.next ?_ | refine WC.skip ?_ | refine WC.condF rfl ?_ | refine WL.wanted rfl rfl rfl ?_
  try refine WL.wanted rfl rfl rfl ?_
  (apply WL.q; exact rfl; exact rfl; exact rfl; (apply EvW.ldBlk (q := i64 (m.worn.getD p.toNat 0)); exact rfl; exact ScalC.eq; (focus ((repeat (first | exact Take.head | apply Take.tail)); done)); (exact at_worn p.toNat hm.pl (by rw [hm.wl]; omega))))
  repeat first
    | (apply WL.q; exact rfl; exact rfl; exact rfl; (first | (apply EvW.assign; exact rfl)))
    | refine WL.nil ?_ | refine WE.next ?_ | refine WC.ret ?_
  refine WE.ret1 rfl rfl ?_
  exact ⟨rfl, rfl⟩
theorem acts_spec (b : Nat) (o : Option Nat) (m : Mem) (w : World) (S : BSet) (hS : (sepL [.blk b (Value.map (o) :: i64 (m).ar :: i64 (m).ac :: Value.bool (m).off :: ((m).pages.map str ++ (m).worn.map i64)).toArray 41]).sat S w)  :
    Tri Try.prog 26 #[ptr b 0] w S fun u A => u = i64 m.ac ∧ A = [.blk b (Value.map (o) :: i64 (m).ar :: i64 (m).ac :: Value.bool (m).off :: ((m).pages.map str ++ (m).worn.map i64)).toArray 41] := by
  refine Tri.enter (l := [ptr b 0]) Try.func26 rfl Try.ntmps26 rfl [(0, ptr b 0)] (subA rfl) hS ?_
  repeat first
    | (apply WL.q; exact rfl; exact rfl; exact rfl; (first | (apply EvW.move; exact rfl) | (apply EvW.assign; exact rfl) | (apply EvW.nilPtr; exact rfl) | (apply EvW.fieldAddr0; exact rfl; exact FldC.eq) | (apply EvW.load; exact rfl; exact ScalC.eq; (focus ((repeat (first | exact Take.head | apply Take.tail)); done)); exact rfl)))
    | refine WC.seq ?_ | refine WC.region ?_ | refine WL.nil ?_ | refine WE.next ?_ | refine WC.ret ?_
  refine WE.ret1 rfl rfl ?_
  exact ⟨rfl, rfl⟩
theorem down_spec (b : Nat) (o : Option Nat) (m : Mem) (r : Bool) (w : World) (S : BSet) (hS : (sepL [.blk b (Value.map (o) :: i64 (m).ar :: i64 (m).ac :: Value.bool (m).off :: ((m).pages.map str ++ (m).worn.map i64)).toArray 41]).sat S w) (hr : m.off = r) :
    Tri Try.prog 17 #[ptr b 0] w S fun u A => u = .bool r ∧ A = [.blk b (Value.map (o) :: i64 (m).ar :: i64 (m).ac :: Value.bool (m).off :: ((m).pages.map str ++ (m).worn.map i64)).toArray 41] := by
  refine Tri.enter (l := [ptr b 0]) Try.func17 rfl Try.ntmps17 rfl [(0, ptr b 0)] (subA rfl) hS ?_
  subst hr
  repeat first
    | (apply WL.q; exact rfl; exact rfl; exact rfl; (first | (apply EvW.move; exact rfl) | (apply EvW.assign; exact rfl) | (apply EvW.nilPtr; exact rfl) | (apply EvW.fieldAddr0; exact rfl; exact FldC.eq) | (apply EvW.load; exact rfl; exact ScalC.eq; (focus ((repeat (first | exact Take.head | apply Take.tail)); done)); exact rfl)))
    | refine WC.seq ?_ | refine WC.region ?_ | refine WL.nil ?_ | refine WE.next ?_ | refine WC.ret ?_
  refine WE.ret1 rfl rfl ?_
  exact ⟨rfl, rfl⟩
theorem erase_bad (b : Nat) (o : Option Nat) (m : Mem) (p : Int) (w : World) (S : BSet) (hS : (sepL [.blk b (Value.map (o) :: i64 (m).ar :: i64 (m).ac :: Value.bool (m).off :: ((m).pages.map str ++ (m).worn.map i64)).toArray 41]).sat S w) (h : m.place p 0 ≠ 0) :
    Tri Try.prog 15 #[ptr b 0, i64 p] w S fun u A => u = i64 (m.place p 0) ∧ A = [.blk b (Value.map (o) :: i64 (m).ar :: i64 (m).ac :: Value.bool (m).off :: ((m).pages.map str ++ (m).worn.map i64)).toArray 41] := by
  refine Tri.enter (l := [ptr b 0, i64 p]) Try.func15 rfl Try.ntmps15 rfl [(0, ptr b 0), (1, i64 p)] (subA rfl) hS ?_
  repeat first
    | (apply WL.q; exact rfl; exact rfl; exact rfl; (first | (apply EvW.move; exact rfl) | (apply EvW.assign; exact rfl)))
    | refine WC.seq ?_ | refine WC.region ?_ | refine WL.nil ?_ | refine WE.next ?_
  try refine WL.wanted rfl rfl rfl ?_
  apply WL.callA ([.blk b (Value.map (o) :: i64 (m).ar :: i64 (m).ac :: Value.bool (m).off :: ((m).pages.map str ++ (m).worn.map i64)).toArray 41])
  · exact rfl
  · exact rfl
  · exact fun w => Try.call29 _ w
  · (focus ((repeat (first | exact TakeL.nil | apply TakeL.cons | exact Take.head | apply Take.tail)); done))
  · exact fun w1 S1 hS1 hs1 ho1 => place_spec b o m p 0 w1 S1 hS1
  rintro _ _ ⟨rfl, rfl⟩
  first | refine WL.app4 ?_ | refine WL.app3 ?_ | refine WL.app2 ?_ | refine WL.app1 ?_ | refine WL.app0 ?_ | skip
  repeat first
    | (apply WL.q; exact rfl; exact rfl; exact rfl; (first | (apply EvW.move; exact rfl) | (apply EvW.assign; exact rfl) | (apply EvW.cmpT; exact rfl; exact rfl; exact rfl; omega)))
    | refine WC.seq ?_ | refine WC.region ?_ | refine WL.nil ?_ | refine WE.next ?_ | refine WC.condT rfl ?_ | refine WC.ret ?_ | refine WE.passRet ?_
  refine WE.ret1 rfl rfl ?_
  exact ⟨rfl, rfl⟩
theorem erase_spec (b : Nat) (o : Option Nat) (m : Mem) (K : Nat) (mp : List (Int × Value)) (p : Int) (ct : Option Int) (w : World) (S : BSet) (hS : (sepL [.blk b (Value.map (o) :: i64 (m).ar :: i64 (m).ac :: Value.bool (m).off :: ((m).pages.map str ++ (m).worn.map i64)).toArray 41, .omap o mp]).sat S w) (h : m.place p 0 = 0) (hm : m.wf K) (hK : K ≤ 1099511627776) (ho : o = none → mp = []) (hc : mget m.ar mp = ct.map i64) :
    Tri Try.prog 15 #[ptr b 0, i64 p] w S fun u A => u = i64 (cutF ct 4096).2 ∧ A = [.blk b (Value.map (o) :: i64 ((m.erased p (cutF ct 4096).1).act ct).ar :: i64 ((m.erased p (cutF ct 4096).1).act ct).ac :: Value.bool ((m.erased p (cutF ct 4096).1).act ct).off :: (((m.erased p (cutF ct 4096).1).act ct).pages.map str ++ ((m.erased p (cutF ct 4096).1).act ct).worn.map i64)).toArray 41, .omap o (mdel m.ar mp)] := by
  refine Tri.enter (l := [ptr b 0, i64 p]) Try.func15 rfl Try.ntmps15 rfl [(0, ptr b 0), (1, i64 p)] (subA rfl) hS ?_
  obtain ⟨hoff, hp, _⟩ := place_zero h
  obtain ⟨hp1, hp2⟩ := hm.page hp.1 hp.2
  have hw1 : p.toNat < m.worn.length := by rw [hm.wl]; omega
  have hww := hm.w p.toNat (by omega)
  obtain ⟨g1, g2, g3, g4, g5, g6, _, _⟩ := hm
  obtain ⟨n, e, hn⟩ : ∃ n e, cutF ct 4096 = (n, e) := ⟨_, _, rfl⟩
  have hn0 : 0 ≤ n ∧ n ≤ 4096 := by
    have : n = (cutF ct 4096).1 := by rw [hn]
    rw [this]
    cases ct with
    | none => exact ⟨by decide, by decide⟩
    | some q => show 0 ≤ min (max q 0) 4096 ∧ min (max q 0) 4096 ≤ 4096; omega
  have hb1 := bareB_length n.toNat
  have hd1 : ((m.page p).drop n.toNat).length = (m.page p).length - n.toNat := List.length_drop ..
  rw [hn]
  dsimp only
  repeat first
    | (apply WL.q; exact rfl; exact rfl; exact rfl; (first | (apply EvW.move; exact rfl) | (apply EvW.assign; exact rfl)))
    | refine WC.seq ?_ | refine WC.region ?_ | refine WL.nil ?_ | refine WE.next ?_
  try refine WL.wanted rfl rfl rfl ?_
  apply WL.callA ([.blk b (Value.map (o) :: i64 (m).ar :: i64 (m).ac :: Value.bool (m).off :: ((m).pages.map str ++ (m).worn.map i64)).toArray 41])
  · exact rfl
  · exact rfl
  · exact fun w => Try.call29 _ w
  · (focus ((repeat (first | exact TakeL.nil | apply TakeL.cons | exact Take.head | apply Take.tail)); done))
  · exact fun w1 S1 hS1 hs1 ho1 => place_spec b o m p 0 w1 S1 hS1
  rintro _ _ ⟨rfl, rfl⟩
  first | refine WL.app4 ?_ | refine WL.app3 ?_ | refine WL.app2 ?_ | refine WL.app1 ?_ | refine WL.app0 ?_ | skip
  rw [h]
  repeat first
    | (apply WL.q; exact rfl; exact rfl; exact rfl; (first | (apply EvW.move; exact rfl) | (apply EvW.assign; exact rfl) | (apply EvW.nilPtr; exact rfl) | (apply EvW.fieldAddr0; exact rfl; exact FldC.eq) | (apply EvW.cmpF; exact rfl; exact rfl; exact rfl; omega)))
    | refine WC.seq ?_ | refine WC.region ?_ | refine WL.nil ?_ | refine WE.next ?_ | refine WC.skip ?_ | refine WC.condF rfl ?_
  try refine WL.wanted rfl rfl rfl ?_
  apply WL.callA ([.blk b (Value.map (o) :: i64 (m).ar :: i64 (m).ac :: Value.bool (m).off :: ((m).pages.map str ++ (m).worn.map i64)).toArray 41, .omap o mp])
  · exact rfl
  · exact rfl
  · exact fun w => Try.call31 _ w
  · (focus ((repeat (first | exact TakeL.nil | apply TakeL.cons | exact Take.head | apply Take.tail)); done))
  · exact fun w1 S1 hS1 hs1 ho1 => act_spec b o mp m.ar m.ac m.off (m.pages.map str ++ m.worn.map i64) 41 ct 4096 w1 S1 hS1 (by decide) g1 (by omega) g3 (by omega) ho hc
  rintro _ _ ⟨rfl, rfl⟩
  first | refine WL.app4 ?_ | refine WL.app3 ?_ | refine WL.app2 ?_ | refine WL.app1 ?_ | refine WL.app0 ?_ | skip
  rw [hn]
  dsimp only
  repeat first
    | (apply WL.q; exact rfl; exact rfl; exact rfl; (first | (apply EvW.move; exact rfl) | (apply EvW.assign; exact rfl) | (apply EvW.extract; exact rfl; exact rfl)))
    | refine WC.seq ?_ | refine WL.nil ?_ | refine WE.next ?_
  repeat refine WC.seq ?_
  refine WC.keep (xs := [.blk b (Value.map (o) :: i64 (m.act ct).ar :: i64 (m.act ct).ac :: Value.bool (m.act ct).off :: ((m.act ct).pages.map str ++ (m.act ct).worn.map i64)).toArray 41, .omap o (mdel m.ar mp)]) (by (focus ((repeat (first | exact TakeL.nil | apply TakeL.cons | exact Take.head | apply Take.tail)); done))) ?_
  apply WC.par _ (fun c : Ch => [.blk b (Value.map (o) :: i64 (m.act ct).ar :: i64 (m.act ct).ac :: Value.bool (m.act ct).off :: ((m.act ct).pages.map str ++ (m.act ct).worn.map i64)).toArray 41, .blk b (Value.map (o) :: i64 ({ m.act ct with pages := m.pages.set p.toNat (bareB n.toNat ++ (m.page p).drop n.toNat) }).ar :: i64 ({ m.act ct with pages := m.pages.set p.toNat (bareB n.toNat ++ (m.page p).drop n.toNat) }).ac :: Value.bool ({ m.act ct with pages := m.pages.set p.toNat (bareB n.toNat ++ (m.page p).drop n.toNat) }).off :: (({ m.act ct with pages := m.pages.set p.toNat (bareB n.toNat ++ (m.page p).drop n.toNat) }).pages.map str ++ ({ m.act ct with pages := m.pages.set p.toNat (bareB n.toNat ++ (m.page p).drop n.toNat) }).worn.map i64)).toArray 41, .omap o (mdel m.ar mp)]) [none, some 16, none] [some 16, none, none] [] Try.mixed
  · (focus ((repeat (first | exact Restr.nil | (apply Restr.keep; exact rfl; exact rfl) | (apply Restr.drop; exact rfl))); done))
  · intro c; exact (by (focus ((repeat (first | exact SelT.nil | apply SelT.yes | apply SelT.no)); done)))
  · exact rfl
  · decide +kernel
  · decide +kernel
  · intro c
    (apply Par.quiet _ [true, false, true]; exact rfl; decide +kernel; exact rfl; intro R; refine ⟨_, (by (focus ((repeat (first | exact SelT.nil | apply SelT.yes | apply SelT.no)); done))), ?_⟩;
         (first | (apply EvW.move; exact rfl)))
    (apply Par.quiet _ [true, false, true]; exact rfl; decide +kernel; exact rfl; intro R; refine ⟨_, (by (focus ((repeat (first | exact SelT.nil | apply SelT.yes | apply SelT.no)); done))), ?_⟩;
         (first | (apply EvW.move; exact rfl)))
    (apply Par.quiet _ [true, false, true]; exact rfl; decide +kernel; exact rfl; intro R; refine ⟨_, (by (focus ((repeat (first | exact SelT.nil | apply SelT.yes | apply SelT.no)); done))), ?_⟩;
         (first | (apply EvW.move; exact rfl)))
    apply Par.quiet _ [true, false, true]
    · exact rfl
    · decide +kernel
    · exact rfl
    · intro R
      refine ⟨_, (by (focus ((repeat (first | exact SelT.nil | apply SelT.yes | apply SelT.no)); done))), ?_⟩
      apply EvW.callK ([])
      · exact rfl
      · exact fun w => Try.call28 _ w
      · (focus ((repeat (first | exact TakeL.nil | apply TakeL.cons | exact Take.head | apply Take.tail)); done))
      · exact fun w1 S1 hS1 hs1 ho1 => bare_spec n w1 S1 hS1 hn0.1 hn0.2
      · exact fun _ _ h => h
    (apply Par.quiet _ [true, false, true]; exact rfl; decide +kernel; exact rfl; intro R; refine ⟨_, (by (focus ((repeat (first | exact SelT.nil | apply SelT.yes | apply SelT.no)); done))), ?_⟩;
         (first | (apply EvW.move; exact rfl)))
    (apply Par.quiet _ [true, false, true]; exact rfl; decide +kernel; exact rfl; intro R; refine ⟨_, (by (focus ((repeat (first | exact SelT.nil | apply SelT.yes | apply SelT.no)); done))), ?_⟩;
         (first | (apply EvW.move; exact rfl)))
    (apply Par.quiet _ [true, false, true]; exact rfl; decide +kernel; exact rfl; intro R; refine ⟨_, (by (focus ((repeat (first | exact SelT.nil | apply SelT.yes | apply SelT.no)); done))), ?_⟩;
         (first | (apply EvW.nilPtr; exact rfl)))
    (apply Par.quiet _ [true, false, true]; exact rfl; decide +kernel; exact rfl; intro R; refine ⟨_, (by (focus ((repeat (first | exact SelT.nil | apply SelT.yes | apply SelT.no)); done))), ?_⟩;
         (first | (apply EvW.fieldAddr0; exact rfl; exact FldC.eq)))
    (apply Par.quiet _ [true, false, true]; exact rfl; decide +kernel; exact rfl; intro R; refine ⟨_, (by (focus ((repeat (first | exact SelT.nil | apply SelT.yes | apply SelT.no)); done))), ?_⟩;
         (first | (apply EvW.idxArr; exact rfl; exact rfl; exact UndC.eq; exact SzC.eq; omega; omega)))
    apply Par.quiet _ [true, false, true]
    · exact rfl
    · decide +kernel
    · exact rfl
    · intro R
      refine ⟨_, (by (focus ((repeat (first | exact SelT.nil | apply SelT.yes | apply SelT.no)); done))), ?_⟩
      (apply EvW.load; exact rfl; exact ScalC.eq; (focus ((repeat (first | exact Take.head | apply Take.tail)); done)); exact (show getL _ _ = some (str (m.page p)) from get_page hp1))
    (apply Par.quiet _ [true, false, true]; exact rfl; decide +kernel; exact rfl; intro R; refine ⟨_, (by (focus ((repeat (first | exact SelT.nil | apply SelT.yes | apply SelT.no)); done))), ?_⟩;
         (first | (apply EvW.move; exact rfl)))
    (apply Par.quiet _ [true, false, true]; exact rfl; decide +kernel; exact rfl; intro R; refine ⟨_, (by (focus ((repeat (first | exact SelT.nil | apply SelT.yes | apply SelT.no)); done))), ?_⟩;
         (first | (apply EvW.sliceS_lo; exact rfl; exact UndC.eq; exact rfl; omega; omega)))
    (apply Par.quiet _ [true, false, true]; exact rfl; decide +kernel; exact rfl; intro R; refine ⟨_, (by (focus ((repeat (first | exact SelT.nil | apply SelT.yes | apply SelT.no)); done))), ?_⟩;
         (first | (apply EvW.sadd; exact rfl; exact rfl; (first | omega | (simp only [List.length_append, List.length_cons, List.length_nil]; omega)))))
    (apply Par.quiet _ [true, false, true]; exact rfl; decide +kernel; exact rfl; intro R; refine ⟨_, (by (focus ((repeat (first | exact SelT.nil | apply SelT.yes | apply SelT.no)); done))), ?_⟩;
         (first | (apply EvW.nilPtr; exact rfl)))
    (apply Par.quiet _ [true, false, true]; exact rfl; decide +kernel; exact rfl; intro R; refine ⟨_, (by (focus ((repeat (first | exact SelT.nil | apply SelT.yes | apply SelT.no)); done))), ?_⟩;
         (first | (apply EvW.fieldAddr0; exact rfl; exact FldC.eq)))
    (apply Par.quiet _ [true, false, true]; exact rfl; decide +kernel; exact rfl; intro R; refine ⟨_, (by (focus ((repeat (first | exact SelT.nil | apply SelT.yes | apply SelT.no)); done))), ?_⟩;
         (first | (apply EvW.idxArr; exact rfl; exact rfl; exact UndC.eq; exact SzC.eq; omega; omega)))
    apply Par.eff _ [true, false, false] [false, true, false] [false, false, true]
    · exact rfl
    · exact rfl
    · decide +kernel
    · intro R
      refine ⟨_, _, _, (by (focus ((repeat (first | exact SelT.nil | apply SelT.yes | apply SelT.no)); done))), (by (focus ((repeat (first | exact SelT.nil | apply SelT.yes | apply SelT.no)); done))), (by (focus ((repeat (first | exact SelT.nil | apply SelT.yes | apply SelT.no)); done))), ?_⟩
      (apply EffW.store; exact rfl; exact rfl; exact rfl; exact SzC.eq; exact rfl; (repeat (first | exact UpdC.head (set_page hp1) | apply UpdC.tail)))
    exact Par.nil
  · repeat (first | exact AllN.nil | (apply AllN.cons; (intro c x; (repeat (first | exact IndA.nil | (apply IndA.skip; decide +kernel) | apply IndA.same))))) 
  · repeat (first | exact AllN.nil | (apply AllN.cons; (intro c x; (repeat (first | exact IndT.nil | (apply IndT.skip; decide +kernel) | apply IndT.same))))) 
  · exact fun _ => rfl
  intro c
  refine ⟨_, (by (focus ((repeat (first | exact SelT.nil | apply SelT.yes | apply SelT.no)); done))), ?_⟩
  apply WE.writ
  · (focus ((repeat (first | exact Writ.nil | apply Writ.some | apply Writ.none)); done))
  repeat first
    | refine WC.seq ?_ | refine WE.next ?_
  repeat refine WC.seq ?_
  refine WC.keep (xs := [.blk b (Value.map (o) :: i64 ({ m.act ct with pages := m.pages.set p.toNat (bareB n.toNat ++ (m.page p).drop n.toNat) }).ar :: i64 ({ m.act ct with pages := m.pages.set p.toNat (bareB n.toNat ++ (m.page p).drop n.toNat) }).ac :: Value.bool ({ m.act ct with pages := m.pages.set p.toNat (bareB n.toNat ++ (m.page p).drop n.toNat) }).off :: (({ m.act ct with pages := m.pages.set p.toNat (bareB n.toNat ++ (m.page p).drop n.toNat) }).pages.map str ++ ({ m.act ct with pages := m.pages.set p.toNat (bareB n.toNat ++ (m.page p).drop n.toNat) }).worn.map i64)).toArray 41, .omap o (mdel m.ar mp)]) (by (focus ((repeat (first | exact TakeL.nil | apply TakeL.cons | exact Take.head | apply Take.tail)); done))) ?_
  apply WC.par _ (fun c : Ch => [.blk b (Value.map (o) :: i64 ({ m.act ct with pages := m.pages.set p.toNat (bareB n.toNat ++ (m.page p).drop n.toNat) }).ar :: i64 ({ m.act ct with pages := m.pages.set p.toNat (bareB n.toNat ++ (m.page p).drop n.toNat) }).ac :: Value.bool ({ m.act ct with pages := m.pages.set p.toNat (bareB n.toNat ++ (m.page p).drop n.toNat) }).off :: (({ m.act ct with pages := m.pages.set p.toNat (bareB n.toNat ++ (m.page p).drop n.toNat) }).pages.map str ++ ({ m.act ct with pages := m.pages.set p.toNat (bareB n.toNat ++ (m.page p).drop n.toNat) }).worn.map i64)).toArray 41, .blk b (Value.map (o) :: i64 ({ m.act ct with pages := m.pages.set p.toNat (bareB n.toNat ++ (m.page p).drop n.toNat), worn := m.worn.set p.toNat (m.worn.getD p.toNat 0 + 1) }).ar :: i64 ({ m.act ct with pages := m.pages.set p.toNat (bareB n.toNat ++ (m.page p).drop n.toNat), worn := m.worn.set p.toNat (m.worn.getD p.toNat 0 + 1) }).ac :: Value.bool ({ m.act ct with pages := m.pages.set p.toNat (bareB n.toNat ++ (m.page p).drop n.toNat), worn := m.worn.set p.toNat (m.worn.getD p.toNat 0 + 1) }).off :: (({ m.act ct with pages := m.pages.set p.toNat (bareB n.toNat ++ (m.page p).drop n.toNat), worn := m.worn.set p.toNat (m.worn.getD p.toNat 0 + 1) }).pages.map str ++ ({ m.act ct with pages := m.pages.set p.toNat (bareB n.toNat ++ (m.page p).drop n.toNat), worn := m.worn.set p.toNat (m.worn.getD p.toNat 0 + 1) }).worn.map i64)).toArray 41, .omap o (mdel m.ar mp)]) [none, some 10, none] [some 10, none, none] [] Try.mixed
  · (focus ((repeat (first | exact Restr.nil | (apply Restr.keep; exact rfl; exact rfl) | (apply Restr.drop; exact rfl))); done))
  · intro c; exact (by (focus ((repeat (first | exact SelT.nil | apply SelT.yes | apply SelT.no)); done)))
  · exact rfl
  · decide +kernel
  · decide +kernel
  · intro c
    (apply Par.quiet _ [true, false, true]; exact rfl; decide +kernel; exact rfl; intro R; refine ⟨_, (by (focus ((repeat (first | exact SelT.nil | apply SelT.yes | apply SelT.no)); done))), ?_⟩;
         (first | (apply EvW.move; exact rfl)))
    (apply Par.quiet _ [true, false, true]; exact rfl; decide +kernel; exact rfl; intro R; refine ⟨_, (by (focus ((repeat (first | exact SelT.nil | apply SelT.yes | apply SelT.no)); done))), ?_⟩;
         (first | (apply EvW.move; exact rfl)))
    (apply Par.quiet _ [true, false, true]; exact rfl; decide +kernel; exact rfl; intro R; refine ⟨_, (by (focus ((repeat (first | exact SelT.nil | apply SelT.yes | apply SelT.no)); done))), ?_⟩;
         (first | (apply EvW.nilPtr; exact rfl)))
    (apply Par.quiet _ [true, false, true]; exact rfl; decide +kernel; exact rfl; intro R; refine ⟨_, (by (focus ((repeat (first | exact SelT.nil | apply SelT.yes | apply SelT.no)); done))), ?_⟩;
         (first | (apply EvW.fieldAddr0; exact rfl; exact FldC.eq)))
    (apply Par.quiet _ [true, false, true]; exact rfl; decide +kernel; exact rfl; intro R; refine ⟨_, (by (focus ((repeat (first | exact SelT.nil | apply SelT.yes | apply SelT.no)); done))), ?_⟩;
         (first | (apply EvW.idxArr; exact rfl; exact rfl; exact UndC.eq; exact SzC.eq; omega; omega)))
    apply Par.quiet _ [true, false, true]
    · exact rfl
    · decide +kernel
    · exact rfl
    · intro R
      refine ⟨_, (by (focus ((repeat (first | exact SelT.nil | apply SelT.yes | apply SelT.no)); done))), ?_⟩
      (apply EvW.load; exact rfl; exact ScalC.eq; (focus ((repeat (first | exact Take.head | apply Take.tail)); done)); exact (show getL _ _ = some (i64 (m.worn.getD p.toNat 0)) from get_worn (by show (m.pages.set _ _).length = 24; rw [List.length_set]; exact g5) hw1))
    (apply Par.quiet _ [true, false, true]; exact rfl; decide +kernel; exact rfl; intro R; refine ⟨_, (by (focus ((repeat (first | exact SelT.nil | apply SelT.yes | apply SelT.no)); done))), ?_⟩;
         (first | (apply EvW.arN; exact rfl; exact rfl; exact rfl; refine i64_in ?_ ?_ <;> omega)))
    (apply Par.quiet _ [true, false, true]; exact rfl; decide +kernel; exact rfl; intro R; refine ⟨_, (by (focus ((repeat (first | exact SelT.nil | apply SelT.yes | apply SelT.no)); done))), ?_⟩;
         (first | (apply EvW.nilPtr; exact rfl)))
    (apply Par.quiet _ [true, false, true]; exact rfl; decide +kernel; exact rfl; intro R; refine ⟨_, (by (focus ((repeat (first | exact SelT.nil | apply SelT.yes | apply SelT.no)); done))), ?_⟩;
         (first | (apply EvW.fieldAddr0; exact rfl; exact FldC.eq)))
    (apply Par.quiet _ [true, false, true]; exact rfl; decide +kernel; exact rfl; intro R; refine ⟨_, (by (focus ((repeat (first | exact SelT.nil | apply SelT.yes | apply SelT.no)); done))), ?_⟩;
         (first | (apply EvW.idxArr; exact rfl; exact rfl; exact UndC.eq; exact SzC.eq; omega; omega)))
    apply Par.eff _ [true, false, false] [false, true, false] [false, false, true]
    · exact rfl
    · exact rfl
    · decide +kernel
    · intro R
      refine ⟨_, _, _, (by (focus ((repeat (first | exact SelT.nil | apply SelT.yes | apply SelT.no)); done))), (by (focus ((repeat (first | exact SelT.nil | apply SelT.yes | apply SelT.no)); done))), (by (focus ((repeat (first | exact SelT.nil | apply SelT.yes | apply SelT.no)); done))), ?_⟩
      (apply EffW.store; exact rfl; exact rfl; exact rfl; exact SzC.eq; exact rfl; (repeat (first | exact UpdC.head (set_worn (by show (m.pages.set _ _).length = 24; rw [List.length_set]; exact g5) hw1) | apply UpdC.tail)))
    exact Par.nil
  · repeat (first | exact AllN.nil | (apply AllN.cons; (intro c x; (repeat (first | exact IndA.nil | (apply IndA.skip; decide +kernel) | apply IndA.same))))) 
  · repeat (first | exact AllN.nil | (apply AllN.cons; (intro c x; (repeat (first | exact IndT.nil | (apply IndT.skip; decide +kernel) | apply IndT.same))))) 
  · exact fun _ => rfl
  intro c
  refine ⟨_, (by (focus ((repeat (first | exact SelT.nil | apply SelT.yes | apply SelT.no)); done))), ?_⟩
  apply WE.writ
  · (focus ((repeat (first | exact Writ.nil | apply Writ.some | apply Writ.none)); done))
  repeat first
    | (apply WL.q; exact rfl; exact rfl; exact rfl; (first | (apply EvW.move; exact rfl) | (apply EvW.assign; exact rfl)))
    | refine WC.seq ?_ | refine WC.region ?_ | refine WL.nil ?_ | refine WE.next ?_ | refine WC.ret ?_
  refine WE.ret1 rfl rfl ?_
  exact ⟨rfl, rfl⟩
end Go.Proofs.Ytakffjjnogpolaa
