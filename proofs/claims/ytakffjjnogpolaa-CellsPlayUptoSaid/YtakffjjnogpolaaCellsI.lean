/- The law of the cuts. -/
import Derived.Test.YtakffjjnogpolaaCellsG
namespace Go.Proofs.Ytakffjjnogpolaa
open Go.RowKit Go.BK

section
variable {P : Program} {w0 : World} {S0 : BSet} {n : Nat} {F : Fr} {A : List HP} {d : Option Tmp} {T : TypeId} {pos : String} {af : Array Edge} {x y : Operand} {t ty : TypeId} {g : Option (Nat × Bool)}
theorem EvW.sneP {l m : List UInt8} (hx : ev F x = some (str l)) (hy : ev F y = some (str m)) (h : l = m) : EvW P w0 S0 n F A ⟨d, .binOp .neq t x y ty, T, pos, af, g⟩ (.bool false) := by
  have := Go.BK.EvW.sne (P := P) (w0 := w0) (S0 := S0) (n := n) (A := A) (d := d) (T := T) (pos := pos) (af := af) (g := g) (t := t) (ty := ty) hx hy
  rwa [decide_eq_false (fun k => k h)] at this
theorem EvW.seqP {l m : List UInt8} (hx : ev F x = some (str l)) (hy : ev F y = some (str m)) (h : l = m) : EvW P w0 S0 n F A ⟨d, .binOp .eql t x y ty, T, pos, af, g⟩ (.bool true) := by
  have := Go.BK.EvW.seq (P := P) (w0 := w0) (S0 := S0) (n := n) (A := A) (d := d) (T := T) (pos := pos) (af := af) (g := g) (t := t) (ty := ty) hx hy
  rwa [decide_eq_true h] at this
end
theorem bareL_le : ∀ l : List UInt8, bareL l ≤ l.length := fun l => by
  unfold bareL
  exact Nat.le_trans (List.dropWhile_sublist _).length_le (Nat.le_of_eq (List.length_reverse ..))
theorem arm_one (x : Int) (k : Int) : armM [⟨k, x⟩] = [(k, i64 x)] := rfl
theorem arm_two (x y : Int) : armM [⟨1, x⟩, ⟨0, y⟩] = [(1, i64 x), (0, i64 y)] := rfl
theorem getD_bare (n k : Nat) (h : k < n) : (bareB n).getD k 0 = 255 := getD_rep n _ _ h
set_option maxHeartbeats 1000000 in
theorem cellsCuts_law (l : List UInt8) (x y : Int) (w : World) (S : BSet) (hS : (sepL []).sat S w) (hl : l.length ≤ 140737488355000) (hx : -9223372036854775808 ≤ x ∧ x ≤ 9223372036854775807) (hy : -9223372036854775808 ≤ y ∧ y ≤ 9223372036854775807) :
    Tri Try.prog 7 #[str l, i64 x, i64 y] w S fun u A => u = .bool true := by
  refine Tri.enter (l := [str l, i64 x, i64 y]) Try.func7 rfl Try.ntmps7 rfl [(0, str l), (1, i64 x), (2, i64 y)] (subA rfl) hS ?_
  obtain ⟨t, ht⟩ : ∃ t, l.take (min (l.length : Int) 4096).toNat = t := ⟨_, rfl⟩
  have htl : t.length ≤ 4096 := by rw [← ht, List.length_take]; omega
  repeat first
    | (apply WL.q; exact rfl; exact rfl; exact rfl; (first | (apply EvW.assign; exact rfl)))
    | refine WC.seq ?_ | refine WC.region ?_ | refine WL.nil ?_ | refine WE.next ?_
  try refine WL.wanted rfl rfl rfl ?_
  apply WL.callA ([])
  · exact rfl
  · exact rfl
  · exact fun w => Try.call9 _ w
  · (focus ((repeat (first | exact TakeL.nil | apply TakeL.cons | exact Take.head | apply Take.tail)); done))
  · exact fun w1 S1 hS1 hs1 ho1 => lives07_spec w1 S1 hS1
  rintro _ _ ⟨rfl, rfl⟩
  first | refine WL.app4 ?_ | refine WL.app3 ?_ | refine WL.app2 ?_ | refine WL.app1 ?_ | refine WL.app0 ?_ | skip
  repeat first
    | (apply WL.q; exact rfl; exact rfl; exact rfl; (first | (apply EvW.move; exact rfl) | (apply EvW.assign; exact rfl) | (apply EvW.lenS; exact rfl; exact UndC.eq) | (apply EvW.notT; exact rfl) | (apply EvW.sliceS_hi; exact rfl; exact UndC.eq; exact rfl; omega; omega) | (apply EvW.max2; exact rfl; exact rfl) | (apply EvW.min2; exact rfl; exact rfl)))
    | refine WC.seq ?_ | refine WC.region ?_ | refine WL.nil ?_ | refine WE.next ?_ | refine WC.skip ?_ | refine WC.condF rfl ?_
  rw [ht]
  clear ht
  skip
  obtain ⟨n, hn, hn1⟩ : ∃ n : Nat, min (max x 0) (t.length : Int) = n ∧ n ≤ t.length := ⟨(min (max x 0) (t.length : Int)).toNat, by omega, by omega⟩
  rw [hn]
  clear hl
  have k0 := new_wf
  have hcx : (cutF (some x) (t.length : Int)) = ((n : Int), 14) := by show (min (max x 0) (t.length : Int), (14 : Int)) = _; rw [hn]
  have hb1 := burn_new (m := Mem.new) (p := 1) (t := t) (by decide) rfl (new_page (by decide)) htl
  obtain ⟨m1, hm1⟩ : ∃ m1, (Mem.new.burnt 1 0 t (cutF (some x) (t.length : Int)).1).act (some x) = m1 := ⟨_, rfl⟩
  have k1 : m1.wf 1 := by rw [← hm1]; exact burn_wf (ct := some x) k0 hb1
  have o1 : m1.off = true := by rw [← hm1]; rfl
  have a1 : m1.ac = 1 := by rw [← hm1]; rfl
  have p1 : m1.page 1 = t.take n ++ bareB (4096 - n) := by
    rw [← hm1, hcx]
    show (Mem.new.burnt 1 0 t n).page 1 = _
    rw [burnt_page (by show 1 < 24; decide), if_pos rfl, new_page (by decide), Int.zero_add, show ((n : Nat) : Int).toNat = n from rfl, bareB_drop]; rfl
  have hbo : m1.bad 1 0 t = 14 := by rw [bad_place (by rw [place_off o1]; decide)]; exact place_off o1
  have k1a := again_wf k1
  have hp1l := (k1a.page (p := 1) (by decide) (by decide)).2
  obtain ⟨s, hs⟩ : ∃ s, ((m1.again.page 1).take t.length).drop 0 = s := ⟨_, rfl⟩
  have hsl : s.length = t.length := by rw [← hs, List.drop_zero, List.length_take, hp1l]; omega
  have r1 : m1.again.read 1 0 t.length = (s, 0) := by
    rw [read_ok (place_ok rfl (by decide) (by decide)) (by omega) (by omega), Int.zero_add, show ((t.length : Nat) : Int).toNat = t.length from rfl]
    rw [← hs]; rfl
  have hst : s.take n = t.take n := by
    rw [← hs, List.drop_zero, List.take_take, Nat.min_eq_left hn1]
    show (m1.page 1).take n = _
    rw [p1, List.take_left' (by rw [List.length_take]; omega)]
  obtain ⟨s', hs'⟩ : ∃ s', ((m1.again.page 1).take 4096).drop n = s' := ⟨_, rfl⟩
  have hsl' : s'.length = 4096 - n := by rw [← hs', List.length_drop, List.length_take, hp1l]; omega
  have r2 : m1.again.read 1 n ((4096 : Int) - n) = (s', 0) := by
    rw [read_ok (place_ok rfl (by decide) (by omega)) (by omega) (by omega), show ((n : Int) + (4096 - n)).toNat = 4096 by omega, show ((n : Nat) : Int).toNat = n from rfl, hs']
  have hbare : m1.again.bare 1 ≤ n := by
    unfold Mem.bare
    rw [if_neg (by decide)]
    show ((bareL (m1.page 1) : Nat) : Int) ≤ _
    have := bareL_le (t.take n)
    rw [p1, bareL_rep]
    rw [List.length_take] at this
    omega
  obtain ⟨m2, hm2⟩ : ∃ m2, (Mem.new.burnt 1 0 t (cutF none (t.length : Int)).1).act none = m2 := ⟨_, rfl⟩
  have k2 : m2.wf 1 := by rw [← hm2]; exact burn_wf (ct := none) k0 hb1
  have o2 : m2.off = false := by rw [← hm2]; rfl
  have wn2 : m2.worn = List.replicate 24 0 := by rw [← hm2]; rfl
  have p2 : m2.page 1 = t ++ bareB (4096 - t.length) := by
    rw [← hm2]
    show (Mem.new.burnt 1 0 t t.length).page 1 = _
    exact burn_new_page k0 (by decide) (new_page (by decide)) htl
  have k2' := arm_wf k2
  have he2 : ({ m2 with ar := 0 } : Mem).place 1 0 = 0 := place_ok o2 (by decide) (by decide)
  obtain ⟨g, hg, hg1⟩ : ∃ g : Nat, min (max y 0) 4096 = g ∧ g ≤ 4096 := ⟨(min (max y 0) 4096).toNat, by omega, by omega⟩
  have hcy : (cutF (some y) 4096) = ((g : Int), 14) := by show (min (max y 0) 4096, (14 : Int)) = _; rw [hg]
  obtain ⟨m3, hm3⟩ : ∃ m3, (Mem.erased { m2 with ar := 0 } 1 (cutF (some y) 4096).1).act (some y) = m3 := ⟨_, rfl⟩
  have k3 : m3.wf 2 := by rw [← hm3]; exact erase_wf (ct := some y) k2' (by decide)
  have p3 : m3.page 1 = bareB g ++ (t ++ bareB (4096 - t.length)).drop g := by
    rw [← hm3, hcy]
    show (Mem.erased { m2 with ar := 0 } 1 g).page 1 = _
    rw [erased_page (k2'.page (p := 1) (by decide) (by decide)).1, if_pos rfl, show ((g : Nat) : Int).toNat = g from rfl, ← p2]; rfl
  have w3 : m3.again.worn' 1 = 1 := by
    unfold Mem.worn'
    rw [if_neg (by decide), ← hm3]
    show (m2.worn.set 1 (m2.worn.getD 1 0 + 1)).getD 1 0 = 1
    rw [wn2]; rfl
  have k4 := again_wf k3
  have hp3l := (k4.page (p := 1) (by decide) (by decide)).2
  have p4 : m3.again.page 1 = bareB g ++ (t ++ bareB (4096 - t.length)).drop g := p3
  have r3 : m3.again.read 1 0 g = (bareB g, 0) := by
    rw [read_ok (place_ok rfl (by decide) (by decide)) (by omega) (by omega), Int.zero_add, show ((g : Nat) : Int).toNat = g from rfl, show Int.toNat 0 = 0 from rfl, List.drop_zero, p4, List.take_left' (bareB_length g)]
  obtain ⟨z, hz⟩ : ∃ z, (t ++ bareB (4096 - t.length)).drop g = z := ⟨_, rfl⟩
  have hzl : z.length = 4096 - g := by rw [← hz, List.length_drop, List.length_append, bareB_length]; omega
  have r4 : m3.again.read 1 g ((4096 : Int) - g) = (z, 0) := by
    rw [read_ok (place_ok rfl (by decide) (by omega)) (by omega) (by omega), show ((g : Int) + (4096 - g)).toNat = 4096 by omega, show ((g : Nat) : Int).toNat = g from rfl, List.take_of_length_le (Nat.le_of_eq hp3l), p4, List.drop_left' (bareB_length g), hz]
  have hfin : z.take ((t.length : Int) - min (g : Int) t.length).toNat = t.drop (min (g : Int) t.length).toNat := by
    by_cases hgl : g ≤ t.length
    · rw [show (min (g : Int) t.length).toNat = g by omega, show ((t.length : Int) - min (g : Int) t.length).toNat = t.length - g by omega, ← hz, List.drop_append_of_le_length hgl, List.take_left' (by rw [List.length_drop])]
    · rw [show (min (g : Int) t.length).toNat = t.length by omega, show ((t.length : Int) - min (g : Int) t.length).toNat = 0 by omega, List.take_zero, List.drop_length]
  try refine WL.wanted rfl rfl rfl ?_
  apply WL.callA ([])
  · exact rfl
  · exact rfl
  · exact fun w => Try.call10 _ w
  · (focus ((repeat (first | exact TakeL.nil | apply TakeL.cons | exact Take.head | apply Take.tail)); done))
  · exact fun w1 S1 hS1 hs1 ho1 => new_spec w1 S1 hS1
  rintro _ _ ⟨b, rfl, rfl⟩
  first | refine WL.app4 ?_ | refine WL.app3 ?_ | refine WL.app2 ?_ | refine WL.app1 ?_ | refine WL.app0 ?_ | skip
  repeat first
    | (apply WL.q; exact rfl; exact rfl; exact rfl; (first | (apply EvW.move; exact rfl) | (apply EvW.assign; exact rfl) | (apply EvW.nilPtr; exact rfl) | (apply EvW.fieldAddr0; exact rfl; exact FldC.eq) | (apply EvW.build; exact PlC.eq; exact ZvC.eq; exact rfl; exact rfl; (focus ((repeat (first | exact Fills.nil | (apply Fills.cons; exact rfl; (first | assumption | exact rfl); exact rfl) | exact SetMany.nil | apply SetMany.cons | apply SetMany.succ)); done)))))
    | refine WC.seq ?_ | refine WC.region ?_ | refine WL.nil ?_ | refine WE.next ?_
  try refine WL.wanted rfl rfl rfl ?_
  (apply WL.buildSlice; exact rfl; exact UndC.eq; exact SzC.eq; exact ZvC.eq; exact rfl; exact rfl; exact rfl; ((focus ((repeat (first | exact Flat.nil | (apply Flat.one; (first | exact rfl | assumption)) | (apply Flat.cons; exact rfl; exact rfl))); done))); exact rfl; exact rfl; intro c1)
  try refine WL.wanted rfl rfl rfl ?_
  apply WL.callA ([.blk b (Value.map (none) :: i64 (Mem.new).ar :: i64 (Mem.new).ac :: Value.bool (Mem.new).off :: ((Mem.new).pages.map str ++ (Mem.new).worn.map i64)).toArray 41])
  · exact rfl
  · exact rfl
  · exact fun w => Try.call16 _ w
  · (focus ((repeat (first | exact TakeL.nil | apply TakeL.cons | exact Take.head | apply Take.tail)); done))
  · exact fun w1 S1 hS1 hs1 ho1 => arm_spec b none Mem.new.ar Mem.new.ac Mem.new.off (Mem.new.pages.map str ++ Mem.new.worn.map i64) 41 _ [⟨1, y⟩, ⟨0, x⟩] w1 S1 hS1 ((ho1 _ _ .head).blkRow rfl (fun k u h => by rw [Nat.zero_add]; exact h) (by simp)) (by simp)
  rintro _ _ ⟨mb, rfl, rfl⟩
  first | refine WL.app4 ?_ | refine WL.app3 ?_ | refine WL.app2 ?_ | refine WL.app1 ?_ | refine WL.app0 ?_ | skip
  repeat first
    | (apply WL.q; exact rfl; exact rfl; exact rfl; (first | (apply EvW.move; exact rfl)))
    | refine WC.seq ?_ | refine WC.region ?_ | refine WL.nil ?_ | refine WE.next ?_
  try refine WL.wanted rfl rfl rfl ?_
  (apply WL.buildSlice; exact rfl; exact UndC.eq; exact SzC.eq; exact ZvC.eq; exact rfl; exact rfl; exact rfl; ((focus ((repeat (first | exact Flat.nil | (apply Flat.one; (first | exact rfl | assumption)) | (apply Flat.cons; exact rfl; exact rfl))); done))); exact rfl; exact rfl; intro c2)
  try refine WL.wanted rfl rfl rfl ?_
  apply WL.callA ([.blk b (Value.map (some mb) :: i64 (Mem.new).ar :: i64 (Mem.new).ac :: Value.bool (Mem.new).off :: ((Mem.new).pages.map str ++ (Mem.new).worn.map i64)).toArray 41, .omap (some mb) (armM [⟨1, y⟩, ⟨0, x⟩])])
  · exact rfl
  · exact rfl
  · exact fun w => Try.call11 _ w
  · (focus ((repeat (first | exact TakeL.nil | apply TakeL.cons | exact Take.head | apply Take.tail)); done))
  · exact fun w1 S1 hS1 hs1 ho1 => burn_spec b (some mb) Mem.new 0 (armM [⟨1, y⟩, ⟨0, x⟩]) 1 0 _ [t] t (some x) w1 S1 hS1 ((ho1 _ _ .head).blkRow rfl (fun k u h => by simpa using h) (by simp)) (by simp) (by simp) hb1 k0 (by decide) (fun h => absurd h (by simp)) rfl
  rintro _ _ ⟨rfl, rfl⟩
  first | refine WL.app4 ?_ | refine WL.app3 ?_ | refine WL.app2 ?_ | refine WL.app1 ?_ | refine WL.app0 ?_ | skip
  rw [hm1, hcx]
  dsimp only
  repeat first
    | (apply WL.q; exact rfl; exact rfl; exact rfl; (first | (apply EvW.move; exact rfl) | (apply EvW.cmpF; exact rfl; exact rfl; exact rfl; omega)))
    | refine WL.wanted rfl rfl rfl ?_
  try refine WL.wanted rfl rfl rfl ?_
  (apply WL.buildSlice; exact rfl; exact UndC.eq; exact SzC.eq; exact ZvC.eq; exact rfl; exact rfl; exact rfl; ((focus ((repeat (first | exact Flat.nil | (apply Flat.one; (first | exact rfl | assumption)) | (apply Flat.cons; exact rfl; exact rfl))); done))); exact rfl; exact rfl; intro c3)
  try refine WL.wanted rfl rfl rfl ?_
  apply WL.callA ([.blk b (Value.map (some mb) :: i64 (m1).ar :: i64 (m1).ac :: Value.bool (m1).off :: ((m1).pages.map str ++ (m1).worn.map i64)).toArray 41])
  · exact rfl
  · exact rfl
  · exact fun w => Try.call11 _ w
  · (focus ((repeat (first | exact TakeL.nil | apply TakeL.cons | exact Take.head | apply Take.tail)); done))
  · exact fun w1 S1 hS1 hs1 ho1 => burn_bad b (some mb) m1 1 1 0 _ [t] t w1 S1 hS1 ((ho1 _ _ .head).blkRow rfl (fun k u h => by simpa using h) (by simp)) (by simp) (by simp) (by omega) k1 (by rw [hbo]; decide)
  rintro _ _ ⟨rfl, rfl⟩
  first | refine WL.app4 ?_ | refine WL.app3 ?_ | refine WL.app2 ?_ | refine WL.app1 ?_ | refine WL.app0 ?_ | skip
  rw [hbo]
  repeat first
    | (apply WL.q; exact rfl; exact rfl; exact rfl; (first | (apply EvW.move; exact rfl) | (apply EvW.cmpF; exact rfl; exact rfl; exact rfl; omega) | (apply EvW.pickF; exact rfl; exact rfl)))
    | refine WL.wanted rfl rfl rfl ?_
  try refine WL.wanted rfl rfl rfl ?_
  apply WL.callA ([.blk b (Value.map (some mb) :: i64 (m1).ar :: i64 (m1).ac :: Value.bool (m1).off :: ((m1).pages.map str ++ (m1).worn.map i64)).toArray 41])
  · exact rfl
  · exact rfl
  · exact fun w => Try.call15 _ w
  · (focus ((repeat (first | exact TakeL.nil | apply TakeL.cons | exact Take.head | apply Take.tail)); done))
  · exact fun w1 S1 hS1 hs1 ho1 => erase_bad b (some mb) m1 2 w1 S1 hS1 (by rw [place_off o1]; decide)
  rintro _ _ ⟨rfl, rfl⟩
  first | refine WL.app4 ?_ | refine WL.app3 ?_ | refine WL.app2 ?_ | refine WL.app1 ?_ | refine WL.app0 ?_ | skip
  rw [place_off o1]
  repeat first
    | (apply WL.q; exact rfl; exact rfl; exact rfl; (first | (apply EvW.move; exact rfl) | (apply EvW.nilPtr; exact rfl) | (apply EvW.fieldAddr0; exact rfl; exact FldC.eq) | (apply EvW.cmpF; exact rfl; exact rfl; exact rfl; omega) | (apply EvW.pickF; exact rfl; exact rfl)))
    | refine WL.wanted rfl rfl rfl ?_
  try refine WL.wanted rfl rfl rfl ?_
  apply WL.callA ([.blk b (Value.map (some mb) :: i64 (m1).ar :: i64 (m1).ac :: Value.bool (m1).off :: ((m1).pages.map str ++ (m1).worn.map i64)).toArray 41])
  · exact rfl
  · exact rfl
  · exact fun w => Try.call26 _ w
  · (focus ((repeat (first | exact TakeL.nil | apply TakeL.cons | exact Take.head | apply Take.tail)); done))
  · exact fun w1 S1 hS1 hs1 ho1 => acts_spec b (some mb) m1 w1 S1 hS1
  rintro _ _ ⟨rfl, rfl⟩
  first | refine WL.app4 ?_ | refine WL.app3 ?_ | refine WL.app2 ?_ | refine WL.app1 ?_ | refine WL.app0 ?_ | skip
  repeat first
    | (apply WL.q; exact rfl; exact rfl; exact rfl; (first | (apply EvW.move; exact rfl) | (apply EvW.cmpF; exact rfl; exact rfl; exact rfl; omega) | (apply EvW.pickF; exact rfl; exact rfl)))
    | refine WC.seq ?_ | refine WC.region ?_ | refine WL.nil ?_ | refine WE.next ?_ | refine WC.skip ?_ | refine WC.condF rfl ?_ | refine WL.wanted rfl rfl rfl ?_
  try refine WL.wanted rfl rfl rfl ?_
  apply WL.callA ([.blk b (Value.map (some mb) :: i64 (m1).ar :: i64 (m1).ac :: Value.bool (m1).off :: ((m1).pages.map str ++ (m1).worn.map i64)).toArray 41])
  · exact rfl
  · exact rfl
  · exact fun w => Try.call14 _ w
  · (focus ((repeat (first | exact TakeL.nil | apply TakeL.cons | exact Take.head | apply Take.tail)); done))
  · exact fun w1 S1 hS1 hs1 ho1 => again_spec b (some mb) m1 1 w1 S1 hS1 k1
  rintro _ _ ⟨q, rfl, rfl⟩
  first | refine WL.app4 ?_ | refine WL.app3 ?_ | refine WL.app2 ?_ | refine WL.app1 ?_ | refine WL.app0 ?_ | skip
  repeat first
    | (apply WL.q; exact rfl; exact rfl; exact rfl; (first | (apply EvW.move; exact rfl) | (apply EvW.assign; exact rfl) | (apply EvW.lenS; exact rfl; exact UndC.eq) | (apply EvW.peqN; exact rfl; exact rfl; exact UndC.eq)))
    | refine WC.seq ?_ | refine WC.region ?_ | refine WL.nil ?_ | refine WE.next ?_ | refine WC.skip ?_ | refine WC.condF rfl ?_
  try refine WL.wanted rfl rfl rfl ?_
  apply WL.callA ([.blk q (Value.map (none) :: i64 (m1.again).ar :: i64 (m1.again).ac :: Value.bool (m1.again).off :: ((m1.again).pages.map str ++ (m1.again).worn.map i64)).toArray 41])
  · exact rfl
  · exact rfl
  · exact fun w => Try.call12 _ w
  · (focus ((repeat (first | exact TakeL.nil | apply TakeL.cons | exact Take.head | apply Take.tail)); done))
  · exact fun w1 S1 hS1 hs1 ho1 => read_spec q none m1.again 1 1 0 t.length w1 S1 hS1 k1a
  rintro _ _ ⟨rfl, rfl⟩
  first | refine WL.app4 ?_ | refine WL.app3 ?_ | refine WL.app2 ?_ | refine WL.app1 ?_ | refine WL.app0 ?_ | skip
  rw [r1]
  dsimp only
  repeat first
    | (apply WL.q; exact rfl; exact rfl; exact rfl; (first | (apply EvW.move; exact rfl) | (apply EvW.assign; exact rfl) | (apply EvW.extract; exact rfl; exact rfl) | (apply EvW.arN; exact rfl; exact rfl; exact rfl; refine i64_in ?_ ?_ <;> omega)))
    | refine WC.seq ?_ | refine WC.region ?_ | refine WL.nil ?_ | refine WE.next ?_
  try refine WL.wanted rfl rfl rfl ?_
  apply WL.callA ([.blk q (Value.map (none) :: i64 (m1.again).ar :: i64 (m1.again).ac :: Value.bool (m1.again).off :: ((m1.again).pages.map str ++ (m1.again).worn.map i64)).toArray 41])
  · exact rfl
  · exact rfl
  · exact fun w => Try.call12 _ w
  · (focus ((repeat (first | exact TakeL.nil | apply TakeL.cons | exact Take.head | apply Take.tail)); done))
  · exact fun w1 S1 hS1 hs1 ho1 => read_spec q none m1.again 1 1 n ((4096 : Int) - n) w1 S1 hS1 k1a
  rintro _ _ ⟨rfl, rfl⟩
  first | refine WL.app4 ?_ | refine WL.app3 ?_ | refine WL.app2 ?_ | refine WL.app1 ?_ | refine WL.app0 ?_ | skip
  rw [r2]
  dsimp only
  repeat first
    | (apply WL.q; exact rfl; exact rfl; exact rfl; (first | (apply EvW.move; exact rfl) | (apply EvW.assign; exact rfl) | (apply EvW.extract; exact rfl; exact rfl)))
    | refine WC.seq ?_ | refine WL.nil ?_ | refine WE.next ?_
  repeat refine WC.seq ?_
  refine WC.keep (xs := [.blk q (Value.map (none) :: i64 (m1.again).ar :: i64 (m1.again).ac :: Value.bool (m1.again).off :: ((m1.again).pages.map str ++ (m1.again).worn.map i64)).toArray 41]) (by (focus ((repeat (first | exact TakeL.nil | apply TakeL.cons | exact Take.head | apply Take.tail)); done))) ?_
  apply WC.par _ (fun c : Ch => [.blk q (Value.map (none) :: i64 (m1.again).ar :: i64 (m1.again).ac :: Value.bool (m1.again).off :: ((m1.again).pages.map str ++ (m1.again).worn.map i64)).toArray 41, .blk q (Value.map (none) :: i64 (m1.again).ar :: i64 (m1.again).ac :: Value.bool (m1.again).off :: ((m1.again).pages.map str ++ (m1.again).worn.map i64)).toArray 41]) [none, some 24] [some 24, none] [] Try.mixed
  · (focus ((repeat (first | exact Restr.nil | (apply Restr.keep; exact rfl; exact rfl) | (apply Restr.drop; exact rfl))); done))
  · intro c; exact (by (focus ((repeat (first | exact SelT.nil | apply SelT.yes | apply SelT.no)); done)))
  · exact rfl
  · decide +kernel
  · decide +kernel
  · intro c
    (apply Par.quiet _ [true, false]; exact rfl; decide +kernel; exact rfl; intro R; refine ⟨_, (by (focus ((repeat (first | exact SelT.nil | apply SelT.yes | apply SelT.no)); done))), ?_⟩;
         (first | (apply EvW.move; exact rfl)))
    (apply Par.quiet _ [true, false]; exact rfl; decide +kernel; exact rfl; intro R; refine ⟨_, (by (focus ((repeat (first | exact SelT.nil | apply SelT.yes | apply SelT.no)); done))), ?_⟩;
         (first | (apply EvW.cmpF; exact rfl; exact rfl; exact rfl; omega)))
    (apply Par.quiet _ [true, false]; exact rfl; decide +kernel; exact rfl; intro R; refine ⟨_, (by (focus ((repeat (first | exact SelT.nil | apply SelT.yes | apply SelT.no)); done))), ?_⟩;
         (first | (apply EvW.move; exact rfl)))
    first
      | (apply Par.skip; exact rfl; decide +kernel; exact rfl)
      | (apply Par.quiet _ [true, false]; exact rfl; decide +kernel; exact rfl; intro R; refine ⟨_, (by (focus ((repeat (first | exact SelT.nil | apply SelT.yes | apply SelT.no)); done))), ?_⟩;
         (first | (apply EvW.move; exact rfl)))
    first
      | (apply Par.skip; exact rfl; decide +kernel; exact rfl)
      | (apply Par.quiet _ [true, false]; exact rfl; decide +kernel; exact rfl; intro R; refine ⟨_, (by (focus ((repeat (first | exact SelT.nil | apply SelT.yes | apply SelT.no)); done))), ?_⟩;
         (first | (apply EvW.cmpF; exact rfl; exact rfl; exact rfl; omega)))
    (apply Par.quiet _ [true, false]; exact rfl; decide +kernel; exact rfl; intro R; refine ⟨_, (by (focus ((repeat (first | exact SelT.nil | apply SelT.yes | apply SelT.no)); done))), ?_⟩;
         (first | (apply EvW.pickF; exact rfl; exact rfl)))
    (apply Par.quiet _ [true, false]; exact rfl; decide +kernel; exact rfl; intro R; refine ⟨_, (by (focus ((repeat (first | exact SelT.nil | apply SelT.yes | apply SelT.no)); done))), ?_⟩;
         (first | (apply EvW.move; exact rfl)))
    first
      | (apply Par.skip; exact rfl; decide +kernel; exact rfl)
      | (apply Par.quiet _ [true, false]; exact rfl; decide +kernel; exact rfl; intro R; refine ⟨_, (by (focus ((repeat (first | exact SelT.nil | apply SelT.yes | apply SelT.no)); done))), ?_⟩;
         (first | (apply EvW.move; exact rfl)))
    first
      | (apply Par.skip; exact rfl; decide +kernel; exact rfl)
      | (apply Par.quiet _ [true, false]; exact rfl; decide +kernel; exact rfl; intro R; refine ⟨_, (by (focus ((repeat (first | exact SelT.nil | apply SelT.yes | apply SelT.no)); done))), ?_⟩;
         (first | (apply EvW.move; exact rfl)))
    first
      | (apply Par.skip; exact rfl; decide +kernel; exact rfl)
      | (apply Par.quiet _ [true, false]; exact rfl; decide +kernel; exact rfl; intro R; refine ⟨_, (by (focus ((repeat (first | exact SelT.nil | apply SelT.yes | apply SelT.no)); done))), ?_⟩;
         (first | (apply EvW.sliceS_hi; exact rfl; exact UndC.eq; exact rfl; omega; omega)))
    first
      | (apply Par.skip; exact rfl; decide +kernel; exact rfl)
      | (apply Par.quiet _ [true, false]; exact rfl; decide +kernel; exact rfl; intro R; refine ⟨_, (by (focus ((repeat (first | exact SelT.nil | apply SelT.yes | apply SelT.no)); done))), ?_⟩;
         (first | (apply EvW.move; exact rfl)))
    first
      | (apply Par.skip; exact rfl; decide +kernel; exact rfl)
      | (apply Par.quiet _ [true, false]; exact rfl; decide +kernel; exact rfl; intro R; refine ⟨_, (by (focus ((repeat (first | exact SelT.nil | apply SelT.yes | apply SelT.no)); done))), ?_⟩;
         (first | (apply EvW.move; exact rfl)))
    first
      | (apply Par.skip; exact rfl; decide +kernel; exact rfl)
      | (apply Par.quiet _ [true, false]; exact rfl; decide +kernel; exact rfl; intro R; refine ⟨_, (by (focus ((repeat (first | exact SelT.nil | apply SelT.yes | apply SelT.no)); done))), ?_⟩;
         (first | (apply EvW.sliceS_hi; exact rfl; exact UndC.eq; exact rfl; omega; omega)))
    apply Par.quiet _ [true, false]
    · exact rfl
    · decide +kernel
    · exact rfl
    · intro R
      refine ⟨_, (by (focus ((repeat (first | exact SelT.nil | apply SelT.yes | apply SelT.no)); done))), ?_⟩
      (apply EvW.sneP; exact rfl; exact rfl; exact hst)
    (apply Par.quiet _ [true, false]; exact rfl; decide +kernel; exact rfl; intro R; refine ⟨_, (by (focus ((repeat (first | exact SelT.nil | apply SelT.yes | apply SelT.no)); done))), ?_⟩;
         (first | (apply EvW.pickF; exact rfl; exact rfl)))
    (apply Par.quiet _ [true, false]; exact rfl; decide +kernel; exact rfl; intro R; refine ⟨_, (by (focus ((repeat (first | exact SelT.nil | apply SelT.yes | apply SelT.no)); done))), ?_⟩;
         (first | (apply EvW.move; exact rfl)))
    first
      | (apply Par.skip; exact rfl; decide +kernel; exact rfl)
      | (apply Par.quiet _ [true, false]; exact rfl; decide +kernel; exact rfl; intro R; refine ⟨_, (by (focus ((repeat (first | exact SelT.nil | apply SelT.yes | apply SelT.no)); done))), ?_⟩;
         (first | (apply EvW.move; exact rfl)))
    first
      | (apply Par.skip; exact rfl; decide +kernel; exact rfl)
      | (apply Par.quiet _ [true, false]; exact rfl; decide +kernel; exact rfl; intro R; refine ⟨_, (by (focus ((repeat (first | exact SelT.nil | apply SelT.yes | apply SelT.no)); done))), ?_⟩;
         (first | (apply EvW.lenS; exact rfl; exact UndC.eq)))
    first
      | (apply Par.skip; exact rfl; decide +kernel; exact rfl)
      | (apply Par.quiet _ [true, false]; exact rfl; decide +kernel; exact rfl; intro R; refine ⟨_, (by (focus ((repeat (first | exact SelT.nil | apply SelT.yes | apply SelT.no)); done))), ?_⟩;
         (first | (apply EvW.move; exact rfl)))
    first
      | (apply Par.skip; exact rfl; decide +kernel; exact rfl)
      | (apply Par.quiet _ [true, false]; exact rfl; decide +kernel; exact rfl; intro R; refine ⟨_, (by (focus ((repeat (first | exact SelT.nil | apply SelT.yes | apply SelT.no)); done))), ?_⟩;
         (first | (apply EvW.arN; exact rfl; exact rfl; exact rfl; refine i64_in ?_ ?_ <;> omega)))
    first
      | (apply Par.skip; exact rfl; decide +kernel; exact rfl)
      | (apply Par.quiet _ [true, false]; exact rfl; decide +kernel; exact rfl; intro R; refine ⟨_, (by (focus ((repeat (first | exact SelT.nil | apply SelT.yes | apply SelT.no)); done))), ?_⟩;
         (first | (apply EvW.cmpF; exact rfl; exact rfl; exact rfl; omega)))
    (apply Par.quiet _ [true, false]; exact rfl; decide +kernel; exact rfl; intro R; refine ⟨_, (by (focus ((repeat (first | exact SelT.nil | apply SelT.yes | apply SelT.no)); done))), ?_⟩;
         (first | (apply EvW.pickF; exact rfl; exact rfl)))
    (apply Par.quiet _ [true, false]; exact rfl; decide +kernel; exact rfl; intro R; refine ⟨_, (by (focus ((repeat (first | exact SelT.nil | apply SelT.yes | apply SelT.no)); done))), ?_⟩;
         (first | (apply EvW.move; exact rfl)))
    first
      | (apply Par.skip; exact rfl; decide +kernel; exact rfl)
      | (apply Par.quiet _ [true, false]; exact rfl; decide +kernel; exact rfl; intro R; refine ⟨_, (by (focus ((repeat (first | exact SelT.nil | apply SelT.yes | apply SelT.no)); done))), ?_⟩;
         (first | (apply EvW.move; exact rfl)))
    apply Par.eff _ [true, false] [false, true] [false, false]
    · exact rfl
    · exact rfl
    · decide +kernel
    · intro R
      refine ⟨_, _, _, (by (focus ((repeat (first | exact SelT.nil | apply SelT.yes | apply SelT.no)); done))), (by (focus ((repeat (first | exact SelT.nil | apply SelT.yes | apply SelT.no)); done))), (by (focus ((repeat (first | exact SelT.nil | apply SelT.yes | apply SelT.no)); done))), ?_⟩
      apply EffW.callT
      · exact rfl
      · exact fun w1 S1 hS1 hs1 ho1 => bareOf_spec q none m1.again 1 1 w1 S1 hS1 k1a
      · exact fun w => Try.call13 _ w
      · (focus ((repeat (first | exact TakeL.nil | apply TakeL.cons | exact Take.head | apply Take.tail)); done))
      · exact fun _ _ h => h
      · exact fun _ h => TakeT.st (by (focus ((repeat (first | exact TakeT.tail | apply TakeT.cons | exact Take.head | apply Take.tail | apply TakeT.drop)); done))) h
    first
      | (apply Par.skip; exact rfl; decide +kernel; exact rfl)
      | (apply Par.quiet _ [false, false]; exact rfl; decide +kernel; exact rfl; intro R; refine ⟨_, (by (focus ((repeat (first | exact SelT.nil | apply SelT.yes | apply SelT.no)); done))), ?_⟩;
         (first | (apply EvW.move; exact rfl)))
    first
      | (apply Par.skip; exact rfl; decide +kernel; exact rfl)
      | (apply Par.quiet _ [false, true]; exact rfl; decide +kernel; exact rfl; intro R; refine ⟨_, (by (focus ((repeat (first | exact SelT.nil | apply SelT.yes | apply SelT.no)); done))), ?_⟩;
         (first | (apply EvW.cmpF; exact rfl; exact rfl; exact rfl; omega)))
    (apply Par.quiet _ [false, true]; exact rfl; decide +kernel; exact rfl; intro R; refine ⟨_, (by (focus ((repeat (first | exact SelT.nil | apply SelT.yes | apply SelT.no)); done))), ?_⟩;
         (first | (apply EvW.pickF; exact rfl; exact rfl)))
    exact Par.nil
  · repeat (first | exact AllN.nil | (apply AllN.cons; (intro c x; (repeat (first | exact IndA.nil | (apply IndA.skip; decide +kernel) | apply IndA.same))))) 
  · repeat (first | exact AllN.nil | (apply AllN.cons; (intro c x; (repeat (first | exact IndT.nil | (apply IndT.skip; decide +kernel) | apply IndT.same))))) 
  · exact fun _ => rfl
  intro c
  refine ⟨_, (by (focus ((repeat (first | exact SelT.nil | apply SelT.yes | apply SelT.no)); done))), ?_⟩
  apply WE.writ
  · (focus ((repeat (first | exact Writ.nil | apply Writ.some | apply Writ.none)); done))
  repeat first
    | refine WC.seq ?_ | refine WC.region ?_ | refine WE.next ?_ | refine WC.skip ?_ | refine WC.condF rfl ?_
  try refine WL.wanted rfl rfl rfl ?_
  apply WL.callA ([])
  · exact rfl
  · exact rfl
  · exact fun w => Try.call10 _ w
  · (focus ((repeat (first | exact TakeL.nil | apply TakeL.cons | exact Take.head | apply Take.tail)); done))
  · exact fun w1 S1 hS1 hs1 ho1 => new_spec w1 S1 hS1
  rintro _ _ ⟨q2, rfl, rfl⟩
  first | refine WL.app4 ?_ | refine WL.app3 ?_ | refine WL.app2 ?_ | refine WL.app1 ?_ | refine WL.app0 ?_ | skip
  refine WL.omapNil ?_
  repeat first
    | (apply WL.q; exact rfl; exact rfl; exact rfl; (first | (apply EvW.move; exact rfl) | (apply EvW.assign; exact rfl)))
    | refine WC.seq ?_ | refine WC.region ?_ | refine WL.nil ?_ | refine WE.next ?_
  try refine WL.wanted rfl rfl rfl ?_
  (apply WL.buildSlice; exact rfl; exact UndC.eq; exact SzC.eq; exact ZvC.eq; exact rfl; exact rfl; exact rfl; ((focus ((repeat (first | exact Flat.nil | (apply Flat.one; (first | exact rfl | assumption)) | (apply Flat.cons; exact rfl; exact rfl))); done))); exact rfl; exact rfl; intro c4)
  try refine WL.wanted rfl rfl rfl ?_
  apply WL.callA ([.blk q2 (Value.map (none) :: i64 (Mem.new).ar :: i64 (Mem.new).ac :: Value.bool (Mem.new).off :: ((Mem.new).pages.map str ++ (Mem.new).worn.map i64)).toArray 41, .omap none []])
  · exact rfl
  · exact rfl
  · exact fun w => Try.call11 _ w
  · (focus ((repeat (first | exact TakeL.nil | apply TakeL.cons | exact Take.head | apply Take.tail)); done))
  · exact fun w1 S1 hS1 hs1 ho1 => burn_spec q2 none Mem.new 0 [] 1 0 _ [t] t none w1 S1 hS1 ((ho1 _ _ .head).blkRow rfl (fun k u h => by simpa using h) (by simp)) (by simp) (by simp) hb1 k0 (by decide) (fun _ => rfl) rfl
  rintro _ _ ⟨rfl, rfl⟩
  first | refine WL.app4 ?_ | refine WL.app3 ?_ | refine WL.app2 ?_ | refine WL.app1 ?_ | refine WL.app0 ?_ | skip
  rw [hm2]
  dsimp only [cutF]
  repeat first
    | (apply WL.q; exact rfl; exact rfl; exact rfl; (first | (apply EvW.move; exact rfl) | (apply EvW.nilPtr; exact rfl) | (apply EvW.fieldAddr0; exact rfl; exact FldC.eq) | (apply EvW.cmpF; exact rfl; exact rfl; exact rfl; omega) | (apply EvW.build; exact PlC.eq; exact ZvC.eq; exact rfl; exact rfl; (focus ((repeat (first | exact Fills.nil | (apply Fills.cons; exact rfl; (first | assumption | exact rfl); exact rfl) | exact SetMany.nil | apply SetMany.cons | apply SetMany.succ)); done)))))
    | refine WC.seq ?_ | refine WC.region ?_ | refine WL.nil ?_ | refine WE.next ?_ | refine WC.skip ?_ | refine WC.condF rfl ?_
  try refine WL.wanted rfl rfl rfl ?_
  (apply WL.buildSlice; exact rfl; exact UndC.eq; exact SzC.eq; exact ZvC.eq; exact rfl; exact rfl; exact rfl; ((focus ((repeat (first | exact Flat.nil | (apply Flat.one; (first | exact rfl | assumption)) | (apply Flat.cons; exact rfl; exact rfl))); done))); exact rfl; exact rfl; intro c5)
  try refine WL.wanted rfl rfl rfl ?_
  apply WL.callA ([.blk q2 (Value.map (none) :: i64 (m2).ar :: i64 (m2).ac :: Value.bool (m2).off :: ((m2).pages.map str ++ (m2).worn.map i64)).toArray 41])
  · exact rfl
  · exact rfl
  · exact fun w => Try.call16 _ w
  · (focus ((repeat (first | exact TakeL.nil | apply TakeL.cons | exact Take.head | apply Take.tail)); done))
  · exact fun w1 S1 hS1 hs1 ho1 => arm_spec q2 none m2.ar m2.ac m2.off (m2.pages.map str ++ m2.worn.map i64) 41 _ [⟨0, y⟩] w1 S1 hS1 ((ho1 _ _ .head).blkRow rfl (fun k u h => by rw [Nat.zero_add]; exact h) (by simp)) (by simp)
  rintro _ _ ⟨mb2, rfl, rfl⟩
  first | refine WL.app4 ?_ | refine WL.app3 ?_ | refine WL.app2 ?_ | refine WL.app1 ?_ | refine WL.app0 ?_ | skip
  repeat first
    | (apply WL.q; exact rfl; exact rfl; exact rfl; (first | (apply EvW.move; exact rfl)))
    | refine WC.seq ?_ | refine WC.region ?_ | refine WL.nil ?_ | refine WE.next ?_
  try refine WL.wanted rfl rfl rfl ?_
  apply WL.callA ([.blk q2 (Value.map (some mb2) :: i64 ({ m2 with ar := 0 }).ar :: i64 ({ m2 with ar := 0 }).ac :: Value.bool ({ m2 with ar := 0 }).off :: (({ m2 with ar := 0 }).pages.map str ++ ({ m2 with ar := 0 }).worn.map i64)).toArray 41, .omap (some mb2) (armM [⟨0, y⟩])])
  · exact rfl
  · exact rfl
  · exact fun w => Try.call15 _ w
  · (focus ((repeat (first | exact TakeL.nil | apply TakeL.cons | exact Take.head | apply Take.tail)); done))
  · exact fun w1 S1 hS1 hs1 ho1 => erase_spec q2 (some mb2) { m2 with ar := 0 } 1 (armM [⟨0, y⟩]) 1 (some y) w1 S1 hS1 he2 k2' (by decide) (fun h => absurd h (by simp)) rfl
  rintro _ _ ⟨rfl, rfl⟩
  first | refine WL.app4 ?_ | refine WL.app3 ?_ | refine WL.app2 ?_ | refine WL.app1 ?_ | refine WL.app0 ?_ | skip
  rw [hm3, hcy]
  dsimp only
  repeat first
    | (apply WL.q; exact rfl; exact rfl; exact rfl; (first | (apply EvW.move; exact rfl) | (apply EvW.cmpF; exact rfl; exact rfl; exact rfl; omega)))
    | refine WC.seq ?_ | refine WC.region ?_ | refine WL.nil ?_ | refine WE.next ?_ | refine WC.skip ?_ | refine WC.condF rfl ?_
  try refine WL.wanted rfl rfl rfl ?_
  apply WL.callA ([.blk q2 (Value.map (some mb2) :: i64 (m3).ar :: i64 (m3).ac :: Value.bool (m3).off :: ((m3).pages.map str ++ (m3).worn.map i64)).toArray 41])
  · exact rfl
  · exact rfl
  · exact fun w => Try.call14 _ w
  · (focus ((repeat (first | exact TakeL.nil | apply TakeL.cons | exact Take.head | apply Take.tail)); done))
  · exact fun w1 S1 hS1 hs1 ho1 => again_spec q2 (some mb2) m3 2 w1 S1 hS1 k3
  rintro _ _ ⟨q3, rfl, rfl⟩
  first | refine WL.app4 ?_ | refine WL.app3 ?_ | refine WL.app2 ?_ | refine WL.app1 ?_ | refine WL.app0 ?_ | skip
  repeat first
    | (apply WL.q; exact rfl; exact rfl; exact rfl; (first | (apply EvW.move; exact rfl) | (apply EvW.assign; exact rfl) | (apply EvW.max2; exact rfl; exact rfl) | (apply EvW.min2; exact rfl; exact rfl)))
    | refine WC.seq ?_ | refine WC.region ?_ | refine WL.nil ?_ | refine WE.next ?_
  rw [hg]
  try refine WL.wanted rfl rfl rfl ?_
  apply WL.callA ([.blk q3 (Value.map (none) :: i64 (m3.again).ar :: i64 (m3.again).ac :: Value.bool (m3.again).off :: ((m3.again).pages.map str ++ (m3.again).worn.map i64)).toArray 41])
  · exact rfl
  · exact rfl
  · exact fun w => Try.call12 _ w
  · (focus ((repeat (first | exact TakeL.nil | apply TakeL.cons | exact Take.head | apply Take.tail)); done))
  · exact fun w1 S1 hS1 hs1 ho1 => read_spec q3 none m3.again 2 1 0 g w1 S1 hS1 k4
  rintro _ _ ⟨rfl, rfl⟩
  first | refine WL.app4 ?_ | refine WL.app3 ?_ | refine WL.app2 ?_ | refine WL.app1 ?_ | refine WL.app0 ?_ | skip
  rw [r3]
  dsimp only
  repeat first
    | (apply WL.q; exact rfl; exact rfl; exact rfl; (first | (apply EvW.move; exact rfl) | (apply EvW.assign; exact rfl) | (apply EvW.extract; exact rfl; exact rfl) | (apply EvW.arN; exact rfl; exact rfl; exact rfl; refine i64_in ?_ ?_ <;> omega)))
    | refine WC.seq ?_ | refine WC.region ?_ | refine WL.nil ?_ | refine WE.next ?_
  try refine WL.wanted rfl rfl rfl ?_
  apply WL.callA ([.blk q3 (Value.map (none) :: i64 (m3.again).ar :: i64 (m3.again).ac :: Value.bool (m3.again).off :: ((m3.again).pages.map str ++ (m3.again).worn.map i64)).toArray 41])
  · exact rfl
  · exact rfl
  · exact fun w => Try.call12 _ w
  · (focus ((repeat (first | exact TakeL.nil | apply TakeL.cons | exact Take.head | apply Take.tail)); done))
  · exact fun w1 S1 hS1 hs1 ho1 => read_spec q3 none m3.again 2 1 g ((4096 : Int) - g) w1 S1 hS1 k4
  rintro _ _ ⟨rfl, rfl⟩
  first | refine WL.app4 ?_ | refine WL.app3 ?_ | refine WL.app2 ?_ | refine WL.app1 ?_ | refine WL.app0 ?_ | skip
  rw [r4]
  dsimp only
  repeat first
    | (apply WL.q; exact rfl; exact rfl; exact rfl; (first | (apply EvW.move; exact rfl) | (apply EvW.assign; exact rfl) | (apply EvW.extract; exact rfl; exact rfl) | (apply EvW.cmpF; exact rfl; exact rfl; exact rfl; omega) | (apply EvW.pickF; exact rfl; exact rfl)))
    | refine WC.seq ?_ | refine WC.region ?_ | refine WL.nil ?_ | refine WE.next ?_ | refine WL.wanted rfl rfl rfl ?_
  try refine WL.wanted rfl rfl rfl ?_
  apply WL.callA ([.blk q3 (Value.map (none) :: i64 (m3.again).ar :: i64 (m3.again).ac :: Value.bool (m3.again).off :: ((m3.again).pages.map str ++ (m3.again).worn.map i64)).toArray 41])
  · exact rfl
  · exact rfl
  · exact fun w => Try.call27 _ w
  · (focus ((repeat (first | exact TakeL.nil | apply TakeL.cons | exact Take.head | apply Take.tail)); done))
  · exact fun w1 S1 hS1 hs1 ho1 => worn_spec q3 none m3.again 2 1 w1 S1 hS1 k4
  rintro _ _ ⟨rfl, rfl⟩
  first | refine WL.app4 ?_ | refine WL.app3 ?_ | refine WL.app2 ?_ | refine WL.app1 ?_ | refine WL.app0 ?_ | skip
  rw [w3]
  repeat first
    | (apply WL.q; exact rfl; exact rfl; exact rfl; (first | (apply EvW.assign; exact rfl) | (apply EvW.cmpF; exact rfl; exact rfl; exact rfl; omega) | (apply EvW.pickF; exact rfl; exact rfl)))
    | refine WC.seq ?_ | refine WC.region ?_ | refine WL.nil ?_ | refine WE.next ?_ | refine WC.block ?_ | refine WC.skip ?_ | refine WC.condF rfl ?_ | refine WL.wanted rfl rfl rfl ?_
  have hbl := bareB_length g
  refine WC.loopK (σ := Nat) [0, 10, 12, 15] (fun s => [(16, i64 s)]) (fun s => []) (fun s => s ≤ g) (fun s => g - s) 0 (by (focus ((repeat (first | exact Pick.nil | (apply Pick.cons; exact rfl))); done))) (by (focus ((repeat (first | exact trivial | (refine ⟨rfl, ?_⟩))); done))) (fun _ h => h.keep (by (focus ((repeat (first | exact TakeL.nil | apply TakeL.cons | exact Take.head | apply Take.tail)); done)))) (Nat.zero_le _) (fun s hs => ?_)
  obtain ⟨k, rfl⟩ : ∃ q, q = s := ⟨s, rfl⟩
  simp only [List.cons_append, List.nil_append] at hs ⊢
  by_cases hk : (k : Int) < ((bareB g).length : Nat)
  · have hv : (((bareB g).getD ((k : Nat) : Int).toNat 0).toNat : Int) = 255 := by rw [show ((k : Nat) : Int).toNat = k from rfl, getD_bare g k (by omega)]; rfl
    repeat first
      | (apply WL.q; exact rfl; exact rfl; exact rfl; (first | (apply EvW.move; exact rfl) | (apply EvW.assign; exact rfl) | (apply EvW.lenS; exact rfl; exact UndC.eq) | (apply EvW.cmpT; exact rfl; exact rfl; exact rfl; omega) | (apply EvW.cmpF; exact rfl; exact rfl; exact rfl; omega) | (apply EvW.arN; exact rfl; exact rfl; exact rfl; refine i64_in ?_ ?_ <;> omega) | (apply EvW.index; exact rfl; exact rfl; exact UndC.eq; omega; omega)))
      | refine WC.seq ?_ | refine WC.region ?_ | refine WL.nil ?_ | refine WE.next ?_ | refine WC.block ?_ | refine WC.skip ?_ | refine WE.out ?_ | refine WC.condT rfl ?_ | refine WC.condF rfl ?_
    exact WE.again (s := k) ((k + 1)) (by omega) (by (focus ((repeat (first | exact trivial | (refine ⟨rfl, ?_⟩))); done))) (fun _ h => (by (try simp only []); exact h.keep (by (focus ((repeat (first | exact TakeL.nil | apply TakeL.cons | exact Take.head | apply Take.tail)); done))))) (by (try simp only []); omega)
  · repeat first
      | (apply WL.q; exact rfl; exact rfl; exact rfl; (first | (apply EvW.move; exact rfl) | (apply EvW.assign; exact rfl) | (apply EvW.lenS; exact rfl; exact UndC.eq) | (apply EvW.cmpF; exact rfl; exact rfl; exact rfl; omega) | (apply EvW.min2; exact rfl; exact rfl)))
      | refine WC.seq ?_ | refine WC.region ?_ | refine WL.nil ?_ | refine WE.next ?_ | refine WC.exit ?_ | refine WE.pass ?_ | refine WE.hit ?_ | refine WC.condF rfl ?_
    repeat refine WC.seq ?_
    refine WC.keep (xs := []) (by (focus ((repeat (first | exact TakeL.nil | apply TakeL.cons | exact Take.head | apply Take.tail)); done))) ?_
    apply WC.par _ (fun c : Ch => []) [] [] [] Try.mixed
    · (focus ((repeat (first | exact Restr.nil | (apply Restr.keep; exact rfl; exact rfl) | (apply Restr.drop; exact rfl))); done))
    · intro c; exact (by (focus ((repeat (first | exact SelT.nil | apply SelT.yes | apply SelT.no)); done)))
    · exact rfl
    · decide +kernel
    · decide +kernel
    · intro c
      (apply Par.quiet _ []; exact rfl; decide +kernel; exact rfl; intro R; refine ⟨_, (by (focus ((repeat (first | exact SelT.nil | apply SelT.yes | apply SelT.no)); done))), ?_⟩;
           (first | (apply EvW.move; exact rfl)))
      (apply Par.quiet _ []; exact rfl; decide +kernel; exact rfl; intro R; refine ⟨_, (by (focus ((repeat (first | exact SelT.nil | apply SelT.yes | apply SelT.no)); done))), ?_⟩;
           (first | (apply EvW.move; exact rfl)))
      (apply Par.quiet _ []; exact rfl; decide +kernel; exact rfl; intro R; refine ⟨_, (by (focus ((repeat (first | exact SelT.nil | apply SelT.yes | apply SelT.no)); done))), ?_⟩;
           (first | (apply EvW.lenS; exact rfl; exact UndC.eq)))
      (apply Par.quiet _ []; exact rfl; decide +kernel; exact rfl; intro R; refine ⟨_, (by (focus ((repeat (first | exact SelT.nil | apply SelT.yes | apply SelT.no)); done))), ?_⟩;
           (first | (apply EvW.move; exact rfl)))
      (apply Par.quiet _ []; exact rfl; decide +kernel; exact rfl; intro R; refine ⟨_, (by (focus ((repeat (first | exact SelT.nil | apply SelT.yes | apply SelT.no)); done))), ?_⟩;
           (first | (apply EvW.arN; exact rfl; exact rfl; exact rfl; refine i64_in ?_ ?_ <;> omega)))
      (apply Par.quiet _ []; exact rfl; decide +kernel; exact rfl; intro R; refine ⟨_, (by (focus ((repeat (first | exact SelT.nil | apply SelT.yes | apply SelT.no)); done))), ?_⟩;
           (first | (apply EvW.sliceS_hi; exact rfl; exact UndC.eq; exact rfl; omega; omega)))
      (apply Par.quiet _ []; exact rfl; decide +kernel; exact rfl; intro R; refine ⟨_, (by (focus ((repeat (first | exact SelT.nil | apply SelT.yes | apply SelT.no)); done))), ?_⟩;
           (first | (apply EvW.move; exact rfl)))
      (apply Par.quiet _ []; exact rfl; decide +kernel; exact rfl; intro R; refine ⟨_, (by (focus ((repeat (first | exact SelT.nil | apply SelT.yes | apply SelT.no)); done))), ?_⟩;
           (first | (apply EvW.move; exact rfl)))
      (apply Par.quiet _ []; exact rfl; decide +kernel; exact rfl; intro R; refine ⟨_, (by (focus ((repeat (first | exact SelT.nil | apply SelT.yes | apply SelT.no)); done))), ?_⟩;
           (first | (apply EvW.sliceS_lo; exact rfl; exact UndC.eq; exact rfl; omega; omega)))
      apply Par.quiet _ []
      · exact rfl
      · decide +kernel
      · exact rfl
      · intro R
        refine ⟨_, (by (focus ((repeat (first | exact SelT.nil | apply SelT.yes | apply SelT.no)); done))), ?_⟩
        (apply EvW.seqP; exact rfl; exact rfl; exact hfin)
      (apply Par.quiet _ []; exact rfl; decide +kernel; exact rfl; intro R; refine ⟨_, (by (focus ((repeat (first | exact SelT.nil | apply SelT.yes | apply SelT.no)); done))), ?_⟩;
           (first | (apply EvW.move; exact rfl)))
      first
        | (apply Par.skip; exact rfl; decide +kernel; exact rfl)
        | (apply Par.quiet _ []; exact rfl; decide +kernel; exact rfl; intro R; refine ⟨_, (by (focus ((repeat (first | exact SelT.nil | apply SelT.yes | apply SelT.no)); done))), ?_⟩;
           fail)
      first
        | (apply Par.skip; exact rfl; decide +kernel; exact rfl)
        | (apply Par.quiet _ []; exact rfl; decide +kernel; exact rfl; intro R; refine ⟨_, (by (focus ((repeat (first | exact SelT.nil | apply SelT.yes | apply SelT.no)); done))), ?_⟩;
           fail)
      first
        | (apply Par.skip; exact rfl; decide +kernel; exact rfl)
        | (apply Par.quiet _ []; exact rfl; decide +kernel; exact rfl; intro R; refine ⟨_, (by (focus ((repeat (first | exact SelT.nil | apply SelT.yes | apply SelT.no)); done))), ?_⟩;
           fail)
      first
        | (apply Par.skip; exact rfl; decide +kernel; exact rfl)
        | (apply Par.quiet _ []; exact rfl; decide +kernel; exact rfl; intro R; refine ⟨_, (by (focus ((repeat (first | exact SelT.nil | apply SelT.yes | apply SelT.no)); done))), ?_⟩;
           fail)
      (apply Par.quiet _ []; exact rfl; decide +kernel; exact rfl; intro R; refine ⟨_, (by (focus ((repeat (first | exact SelT.nil | apply SelT.yes | apply SelT.no)); done))), ?_⟩;
           (first | (apply EvW.pickT; exact rfl; exact rfl)))
      (apply Par.quiet _ []; exact rfl; decide +kernel; exact rfl; intro R; refine ⟨_, (by (focus ((repeat (first | exact SelT.nil | apply SelT.yes | apply SelT.no)); done))), ?_⟩;
           (first | (apply EvW.assign; exact rfl)))
      exact Par.nil
    · repeat (first | exact AllN.nil | (apply AllN.cons; (intro c x; (repeat (first | exact IndA.nil | (apply IndA.skip; decide +kernel) | apply IndA.same))))) 
    · repeat (first | exact AllN.nil | (apply AllN.cons; (intro c x; (repeat (first | exact IndT.nil | (apply IndT.skip; decide +kernel) | apply IndT.same))))) 
    · exact fun _ => rfl
    intro c
    refine ⟨_, (by (focus ((repeat (first | exact SelT.nil | apply SelT.yes | apply SelT.no)); done))), ?_⟩
    apply WE.writ
    · (focus ((repeat (first | exact Writ.nil | apply Writ.some | apply Writ.none)); done))
    repeat first
      | refine WE.next ?_ | refine WC.ret ?_
    refine WE.ret1 rfl rfl ?_
    rfl
end Go.Proofs.Ytakffjjnogpolaa
