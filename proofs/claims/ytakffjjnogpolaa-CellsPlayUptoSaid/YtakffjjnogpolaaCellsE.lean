/- A memory of cells: what is known of it behind its calls; the chapter's example. -/
import Derived.Test.YtakffjjnogpolaaCellsD
namespace Go.Proofs.Ytakffjjnogpolaa
open Go.RowKit Go.BK

section
variable {P : Program} {w0 : World} {S0 : BSet} {n : Nat} {F : Fr} {A : List HP} {ops : Array Oper} {rest : List Oper} {Q : Exit → Act → World → Prop}
theorem St.omapNil {w : World} (h : St w0 S0 A w) : St w0 S0 (.omap none [] :: A) w :=
  h.mono fun S w hs => ⟨fun _ => False, S, fun b => by simp, fun b hb => hb.elim, ⟨fun _ h => h, rfl⟩, hs⟩
theorem WL.omapNil (kk : WL P w0 S0 n ops Q rest F (.omap none [] :: A)) : WL P w0 S0 n ops Q rest F A := kk.conv fun _ hs => St.omapNil hs
theorem WC.omapNil {c : Code} (kk : WC P w0 S0 n c Q F (.omap none [] :: A)) : WC P w0 S0 n c Q F A := kk.conv fun _ hs => St.omapNil hs
end
theorem Mem.wf.le {m : Mem} {K K' : Nat} (h : m.wf K) (hk : K ≤ K') : m.wf K' := ⟨h.ar0, by have := h.ar1; omega, h.ac0, by have := h.ac1; omega, h.pl, h.wl, h.p, fun i hi => ⟨(h.w i hi).1, by have := (h.w i hi).2; omega⟩⟩
theorem getD_set {α : Type} {xs : List α} {i j : Nat} {a d : α} : (xs.set i a).getD j d = if i = j ∧ j < xs.length then a else xs.getD j d := by
  by_cases h : i = j
  · subst h
    by_cases hl : i < xs.length
    · rw [if_pos ⟨rfl, hl⟩, List.getD_eq_getElem?_getD, List.getElem?_set_self hl]; rfl
    · rw [if_neg (fun k => hl k.2), List.getD_eq_getElem?_getD, List.getD_eq_getElem?_getD, List.set_eq_of_length_le (by omega)]
  · rw [if_neg (fun k => h k.1), List.getD_eq_getElem?_getD, List.getElem?_set_ne h, ← List.getD_eq_getElem?_getD]
theorem burnt_page {m : Mem} {p pos n : Int} {t : List UInt8} {q : Int} (hp : p.toNat < m.pages.length) : (m.burnt p pos t n).page q = if p.toNat = q.toNat then (m.page p).take pos.toNat ++ t.take n.toNat ++ (m.page p).drop (pos + n).toNat else m.page q := by
  show (m.pages.set _ _).getD _ _ = _
  rw [getD_set]
  by_cases h : p.toNat = q.toNat
  · rw [if_pos ⟨h, by omega⟩, if_pos h]
  · rw [if_neg (fun k => h k.1), if_neg h]; rfl
theorem erased_page {m : Mem} {p n q : Int} (hp : p.toNat < m.pages.length) : (m.erased p n).page q = if p.toNat = q.toNat then bareB n.toNat ++ (m.page p).drop n.toNat else m.page q := by
  show (m.pages.set _ _).getD _ _ = _
  rw [getD_set]
  by_cases h : p.toNat = q.toNat
  · rw [if_pos ⟨h, by omega⟩, if_pos h]
  · rw [if_neg (fun k => h k.1), if_neg h]; rfl
theorem act_wf {m : Mem} {K : Nat} (h : m.wf K) (ct : Option Int) : (m.act ct).wf (K + 1) := ⟨by have := h.ar0; show 0 ≤ m.ar + 1; omega, by have := h.ar1; show m.ar + 1 ≤ ((K + 1 : Nat) : Int); omega, by have := h.ac0; show 0 ≤ m.ac + 1; omega, by have := h.ac1; show m.ac + 1 ≤ ((K + 1 : Nat) : Int); omega, h.pl, h.wl, h.p, fun i hi => ⟨(h.w i hi).1, by have := (h.w i hi).2; show m.worn.getD i 0 ≤ _; omega⟩⟩
theorem burn_wf {m : Mem} {K : Nat} {p pos : Int} {t : List UInt8} {ct : Option Int} (h : m.wf K) (hb : m.bad p pos t = 0) : ((m.burnt p pos t (cutF ct t.length).1).act ct).wf (K + 1) := by
  obtain ⟨h1, h2, _⟩ := bad_zero hb
  obtain ⟨_, hp, hpos⟩ := place_zero h1
  obtain ⟨hp1, hp2⟩ := h.page hp.1 hp.2
  have hn := cutF_bd ct t.length (by omega)
  refine act_wf (m := m.burnt p pos t (cutF ct t.length).1) ⟨h.ar0, h.ar1, h.ac0, h.ac1, by show (m.pages.set _ _).length = 24; rw [List.length_set]; exact h.pl, h.wl, fun i hi => ?_, h.w⟩ ct
  show ((m.pages.set _ _).getD i []).length = 4096
  rw [getD_set]
  split
  · rw [List.length_append, List.length_append, List.length_take, List.length_take, List.length_drop]; omega
  · exact h.p i hi
theorem erase_wf {m : Mem} {K : Nat} {p : Int} {ct : Option Int} (h : m.wf K) (hp : 0 ≤ p ∧ p < 24) : ((m.erased p (cutF ct 4096).1).act ct).wf (K + 1) := by
  obtain ⟨hp1, hp2⟩ := h.page hp.1 hp.2
  have hn := cutF_bd ct 4096 (by decide)
  have hw := h.w p.toNat (by omega)
  have hh : (m.erased p (cutF ct 4096).1).wf (K + 1) := ⟨h.ar0, by have := h.ar1; show m.ar ≤ _; omega, h.ac0, by have := h.ac1; show m.ac ≤ _; omega, by show (m.pages.set _ _).length = 24; rw [List.length_set]; exact h.pl, by show (m.worn.set _ _).length = 24; rw [List.length_set]; exact h.wl, fun i hi => by
      show ((m.pages.set _ _).getD i []).length = 4096
      rw [getD_set]
      split
      · rw [List.length_append, bareB_length, List.length_drop]; omega
      · exact h.p i hi, fun i hi => by
      show 0 ≤ (m.worn.set _ _).getD i 0 ∧ (m.worn.set _ _).getD i 0 ≤ _
      rw [getD_set]
      split
      · omega
      · have := h.w i hi; omega⟩
  exact ⟨by have := h.ar0; show 0 ≤ m.ar + 1; omega, by have := h.ar1; show m.ar + 1 ≤ _; omega, by have := h.ac0; show 0 ≤ m.ac + 1; omega, by have := h.ac1; show m.ac + 1 ≤ _; omega, hh.pl, hh.wl, hh.p, hh.w⟩
theorem place_ok {m : Mem} {p pos : Int} (ho : m.off = false) (hp : 0 ≤ p ∧ p < 24) (hpos : 0 ≤ pos ∧ pos ≤ 4096) : m.place p pos = 0 := by
  unfold Mem.place; rw [if_neg (by rw [ho]; decide), if_neg (by omega)]
theorem place_off {m : Mem} {p pos : Int} (ho : m.off = true) : m.place p pos = 14 := by
  unfold Mem.place; rw [if_pos ho]
theorem place_no {m : Mem} {p pos : Int} (ho : m.off = false) (h : p < 0 ∨ 24 ≤ p ∨ pos < 0 ∨ 4096 < pos) : m.place p pos = 20 := by
  unfold Mem.place; rw [if_neg (by rw [ho]; decide), if_pos h]
theorem bad_ok {m : Mem} {p pos : Int} {t : List UInt8} (h1 : m.place p pos = 0) (h2 : (t.length : Int) ≤ 4096 - pos) (h3 : ((m.page p).take (pos + t.length).toNat).drop pos.toNat = bareB t.length) : m.bad p pos t = 0 := by
  unfold Mem.bad; rw [if_neg (fun k => k h1), if_neg (by omega), if_neg (fun k => k h3)]
theorem bad_long {m : Mem} {p pos : Int} {t : List UInt8} (h1 : m.place p pos = 0) (h2 : (t.length : Int) > 4096 - pos) : m.bad p pos t = 2 := by
  unfold Mem.bad; rw [if_neg (fun k => k h1), if_pos h2]
theorem bad_full {m : Mem} {p pos : Int} {t : List UInt8} (h1 : m.place p pos = 0) (h2 : (t.length : Int) ≤ 4096 - pos) (h3 : ((m.page p).take (pos + t.length).toNat).drop pos.toNat ≠ bareB t.length) : m.bad p pos t = 15 := by
  unfold Mem.bad; rw [if_neg (fun k => k h1), if_neg (by omega), if_pos h3]
theorem bad_place {m : Mem} {p pos : Int} {t : List UInt8} (h1 : m.place p pos ≠ 0) : m.bad p pos t = m.place p pos := by
  unfold Mem.bad; rw [if_pos h1]
theorem read_ok {m : Mem} {p pos n : Int} (h1 : m.place p pos = 0) (h2 : 0 ≤ n) (h3 : n ≤ 4096 - pos) : m.read p pos n = (((m.page p).take (pos + n).toNat).drop pos.toNat, 0) := by
  unfold Mem.read; rw [if_neg (fun k => k h1), if_neg (by omega)]
theorem bareB_take (n k : Nat) : (bareB n).take k = bareB (min k n) := by unfold bareB; rw [List.take_replicate]
theorem bareB_drop (n k : Nat) : (bareB n).drop k = bareB (n - k) := by unfold bareB; rw [List.drop_replicate]
theorem bareB_add (n k : Nat) : bareB (n + k) = bareB n ++ bareB k := by unfold bareB; rw [List.replicate_append_replicate]
theorem bareL_rep (l : List UInt8) : ∀ n, bareL (l ++ bareB n) = bareL l
  | 0 => by unfold bareB; rw [List.replicate_zero, List.append_nil]
  | n + 1 => by
    have e : bareB (n + 1) = bareB n ++ [255] := by unfold bareB; exact List.replicate_succ'
    rw [e, ← List.append_assoc, bareL_255, bareL_rep l n]
theorem bareL_bare (n : Nat) : bareL (bareB n) = 0 := by
  have := bareL_rep [] n
  rwa [List.nil_append] at this
theorem bareL_mid (l : List UInt8) (c : UInt8) (n : Nat) (h : c ≠ 255) : bareL (l ++ [c] ++ bareB n) = l.length + 1 := by rw [bareL_rep, bareL_ne _ _ h]
theorem new_page {q : Int} (h : 0 ≤ q ∧ q < 24) : Mem.new.page q = bareB 4096 := getD_rep 24 _ _ (by omega)
/-- A page of text at a place, bare else. -/
theorem text_slice (a : Nat) (t : List UInt8) (c : Nat) : ((bareB a ++ t ++ bareB c).take (a + t.length)).drop a = t := by
  rw [List.append_assoc, List.take_append, bareB_length, Nat.add_sub_cancel_left, List.take_left, List.take_of_length_le (by rw [bareB_length]; omega), List.drop_left' (bareB_length a)]
theorem lives07_spec  (w : World) (S : BSet) (hS : (sepL []).sat S w)  :
    Tri Try.prog 9 #[] w S fun u A => u = .bool true ∧ A = [] := by
  refine Tri.enter (l := []) Try.func9 rfl Try.ntmps9 rfl [] (subA rfl) hS ?_
  have k0 := new_wf
  have hb1 : Mem.new.bad 0 5 [97, 98, 99] = 0 := bad_ok (place_ok rfl (by decide) (by decide)) (by decide) (by rw [new_page (by decide)]; rfl)
  obtain ⟨m1, hm1⟩ : ∃ m1, (Mem.new.burnt 0 5 [97, 98, 99] (cutF none 3).1).act none = m1 := ⟨_, rfl⟩
  have k1 : m1.wf 1 := by rw [← hm1]; exact burn_wf (ct := none) k0 hb1
  have p10 : m1.page 0 = bareB 5 ++ [97, 98, 99] ++ bareB 4088 := by
    rw [← hm1]
    show (Mem.new.burnt 0 5 [97, 98, 99] 3).page 0 = _
    rw [burnt_page (by show 0 < 24; decide), if_pos rfl, new_page (by decide), bareB_take, bareB_drop]; rfl
  have p13 : m1.page 3 = bareB 4096 := by
    rw [← hm1]
    show (Mem.new.burnt 0 5 [97, 98, 99] 3).page 3 = _
    rw [burnt_page (by show 0 < 24; decide), if_neg (by decide), new_page (by decide)]
  have o1 : m1.off = false := by rw [← hm1]; rfl
  have n1 : m1.worn = List.replicate 24 0 := by rw [← hm1]; rfl
  have hbr : m1.bare 0 = 8 := by
    unfold Mem.bare
    rw [if_neg (by decide), p10, show bareB 5 ++ [97, 98, 99] ++ bareB 4088 = (bareB 5 ++ [97, 98]) ++ [99] ++ bareB 4088 from by simp, bareL_mid _ _ _ (by decide)]
    rfl
  have hbx : m1.bad 0 7 [120] = 15 := bad_full (place_ok o1 (by decide) (by decide)) (by decide) (by rw [p10]; decide)
  obtain ⟨m2, hm2⟩ : ∃ m2 : Mem, { m1 with ar := 0 } = m2 := ⟨_, rfl⟩
  have k2 : m2.wf 1 := by rw [← hm2]; exact ⟨by show (0 : Int) ≤ 0; decide, by show (0 : Int) ≤ ((1 : Nat) : Int); decide, k1.ac0, k1.ac1, k1.pl, k1.wl, k1.p, k1.w⟩
  have p23 : m2.page 3 = bareB 4096 := by rw [← hm2]; exact p13
  have o2 : m2.off = false := by rw [← hm2]; exact o1
  have a2 : m2.ar = 0 := by rw [← hm2]
  have n2 : m2.worn = List.replicate 24 0 := by rw [← hm2]; exact n1
  have hb3 : m2.bad 3 0 [97, 98, 99] = 0 := bad_ok (place_ok o2 (by decide) (by decide)) (by decide) (by rw [p23]; rfl)
  obtain ⟨m3, hm3⟩ : ∃ m3, (m2.burnt 3 0 [97, 98, 99] (cutF none 3).1).act none = m3 := ⟨_, rfl⟩
  have k3 : m3.wf 2 := by rw [← hm3]; exact burn_wf (ct := none) k2 hb3
  have o3 : m3.off = false := by rw [← hm3]; show (m2.off || false) = false; rw [o2]; rfl
  have a3 : m3.ar = 1 := by rw [← hm3]; show m2.ar + 1 = 1; rw [a2]; rfl
  have n3 : m3.worn = List.replicate 24 0 := by rw [← hm3]; exact n2
  have p33 : m3.page 3 = [97, 98, 99] ++ bareB 4093 := by
    rw [← hm3]
    show (m2.burnt 3 0 [97, 98, 99] 3).page 3 = _
    rw [burnt_page (by rw [k2.pl]; decide), if_pos rfl, p23, bareB_take, bareB_drop]; rfl
  have hb4 : m3.bad 3 3 [100, 101, 102, 103] = 0 := bad_ok (place_ok o3 (by decide) (by decide)) (by decide) (by rw [p33]; rfl)
  obtain ⟨m4, hm4⟩ : ∃ m4, (m3.burnt 3 3 [100, 101, 102, 103] (cutF (some 2) 4).1).act (some 2) = m4 := ⟨_, rfl⟩
  have k4 : m4.wf 3 := by rw [← hm4]; exact burn_wf (ct := some 2) k3 hb4
  have o4 : m4.off = true := by rw [← hm4]; exact Bool.or_true _
  have n4 : m4.worn = List.replicate 24 0 := by rw [← hm4]; exact n3
  have p43 : m4.page 3 = [97, 98, 99, 100, 101] ++ bareB 4091 := by
    rw [← hm4]
    show (m3.burnt 3 3 [100, 101, 102, 103] 2).page 3 = _
    rw [burnt_page (by rw [k3.pl]; decide), if_pos rfl, p33]
    show ([97, 98, 99] ++ bareB 4093).take 3 ++ [100, 101] ++ ([97, 98, 99] ++ bareB 4093).drop 5 = _
    rw [show (([97, 98, 99] : List UInt8) ++ bareB 4093).drop 5 = (bareB 4093).drop 2 from rfl, bareB_drop]
    rfl
  have k5 := again_wf k4
  have hrd : m4.again.read 3 0 6 = ([97, 98, 99, 100, 101, 255], 0) := by
    rw [read_ok (place_ok rfl (by decide) (by decide)) (by decide) (by decide)]
    show (((m4.page 3).take 6).drop 0, (0 : Int)) = _
    rw [p43]; rfl
  have hp6 : m4.again.place 0 0 = 0 := place_ok rfl (by decide) (by decide)
  obtain ⟨m6, hm6⟩ : ∃ m6, (m4.again.erased 0 (cutF none 4096).1).act none = m6 := ⟨_, rfl⟩
  have k6 : m6.wf 4 := by rw [← hm6]; exact erase_wf (ct := none) k5 (by decide)
  have b6 : m6.bare 0 = 0 := by
    unfold Mem.bare
    rw [if_neg (by decide), ← hm6]
    show ((bareL ((m4.again.erased 0 4096).page 0) : Nat) : Int) = 0
    rw [erased_page (by rw [k5.pl]; decide), if_pos rfl, List.drop_of_length_le (by rw [(k5.page (p := 0) (by decide) (by decide)).2]; decide), List.append_nil, bareL_bare]
    rfl
  have w6 : m6.worn' 0 = 1 := by
    unfold Mem.worn'
    rw [if_neg (by decide), ← hm6]
    show (m4.worn.set 0 (m4.worn.getD 0 0 + 1)).getD 0 0 = 1
    rw [n4]; rfl
  have w4 : m4.worn' 0 = 0 := by
    unfold Mem.worn'
    rw [if_neg (by decide), n4]; rfl
  repeat first
    | (apply WL.q; exact rfl; exact rfl; exact rfl; (first | (apply EvW.move; exact rfl) | (apply EvW.assign; exact rfl) | (apply EvW.nilPtr; exact rfl) | (apply EvW.fieldAddr0; exact rfl; exact FldC.eq) | (apply EvW.fieldAddr; exact rfl; exact FldC.eq) | (apply EvW.extract; exact rfl; exact rfl) | (apply EvW.cmpT; exact rfl; exact rfl; exact rfl; omega) | (apply EvW.cmpF; exact rfl; exact rfl; exact rfl; omega) | (apply EvW.cmp; exact rfl; exact rfl; exact rfl) | (apply EvW.pickT; exact rfl; exact rfl) | (apply EvW.pickF; exact rfl; exact rfl) | (apply EvW.notT; exact rfl) | (apply EvW.notF; exact rfl) | (apply EvW.notP; exact rfl) | (apply EvW.seqS; exact rfl; exact rfl) | (apply EvW.seq; exact rfl; exact rfl) | (apply EvW.build; exact PlC.eq; exact ZvC.eq; exact rfl; exact rfl; (focus ((repeat (first | exact Fills.nil | (apply Fills.cons; exact rfl; (first | assumption | exact rfl); exact rfl) | exact SetMany.nil | apply SetMany.cons | apply SetMany.succ)); done))) | (apply EvW.peqN; exact rfl; exact rfl; exact UndC.eq) | (apply EvW.fldRow; exact rfl; exact FldC.eq; assumption; omega) | (apply EvW.fldOwn; exact rfl; exact FldC.eq; (focus ((repeat (first | exact Take.head | apply Take.tail)); done)); omega) | (apply EvW.nilElemOwn; exact rfl; (focus ((repeat (first | exact Take.head | apply Take.tail)); done)); omega) | (apply EvW.nilElemRow; exact rfl; assumption; omega)))
    | refine WC.seq ?_ | refine WC.region ?_ | refine WL.nil ?_ | refine WE.next ?_ | refine WC.skip ?_ | refine WC.exit ?_ | refine WE.pass ?_ | refine WE.hit ?_ | refine WE.miss rfl ?_ | refine WE.out ?_ | refine WC.condT rfl ?_ | refine WC.condF rfl ?_ | refine WC.ret ?_ | refine WE.passRet ?_ | refine WE.outRet ?_ | refine WL.wanted rfl rfl rfl ?_ | refine WL.unwanted rfl rfl rfl rfl ?_ | refine WL.unwantedU rfl rfl rfl rfl ?_ | refine WL.unwanted0 rfl rfl rfl ?_
  try refine WL.wanted rfl rfl rfl ?_
  apply WL.callA ([])
  · exact rfl
  · exact rfl
  · exact fun w => Try.call10 _ w
  · (focus ((repeat (first | exact TakeL.nil | apply TakeL.cons | exact Take.head | apply Take.tail)); done))
  · exact fun w1 S1 hS1 hs1 ho1 => new_spec w1 S1 hS1
  rintro _ _ ⟨b, rfl, rfl⟩
  first | refine WL.app4 ?_ | refine WL.app3 ?_ | refine WL.app2 ?_ | refine WL.app1 ?_ | refine WL.app0 ?_ | skip
  refine WL.omapNil ?_
  repeat first
    | (apply WL.q; exact rfl; exact rfl; exact rfl; (first | (apply EvW.move; exact rfl) | (apply EvW.assign; exact rfl) | (apply EvW.nilPtr; exact rfl) | (apply EvW.fieldAddr0; exact rfl; exact FldC.eq) | (apply EvW.fieldAddr; exact rfl; exact FldC.eq) | (apply EvW.extract; exact rfl; exact rfl) | (apply EvW.cmpT; exact rfl; exact rfl; exact rfl; omega) | (apply EvW.cmpF; exact rfl; exact rfl; exact rfl; omega) | (apply EvW.cmp; exact rfl; exact rfl; exact rfl) | (apply EvW.pickT; exact rfl; exact rfl) | (apply EvW.pickF; exact rfl; exact rfl) | (apply EvW.notT; exact rfl) | (apply EvW.notF; exact rfl) | (apply EvW.notP; exact rfl) | (apply EvW.seqS; exact rfl; exact rfl) | (apply EvW.seq; exact rfl; exact rfl) | (apply EvW.build; exact PlC.eq; exact ZvC.eq; exact rfl; exact rfl; (focus ((repeat (first | exact Fills.nil | (apply Fills.cons; exact rfl; (first | assumption | exact rfl); exact rfl) | exact SetMany.nil | apply SetMany.cons | apply SetMany.succ)); done))) | (apply EvW.peqN; exact rfl; exact rfl; exact UndC.eq) | (apply EvW.fldRow; exact rfl; exact FldC.eq; assumption; omega) | (apply EvW.fldOwn; exact rfl; exact FldC.eq; (focus ((repeat (first | exact Take.head | apply Take.tail)); done)); omega) | (apply EvW.nilElemOwn; exact rfl; (focus ((repeat (first | exact Take.head | apply Take.tail)); done)); omega) | (apply EvW.nilElemRow; exact rfl; assumption; omega)))
    | refine WC.seq ?_ | refine WC.region ?_ | refine WL.nil ?_ | refine WE.next ?_ | refine WC.skip ?_ | refine WC.exit ?_ | refine WE.pass ?_ | refine WE.hit ?_ | refine WE.miss rfl ?_ | refine WE.out ?_ | refine WC.condT rfl ?_ | refine WC.condF rfl ?_ | refine WC.ret ?_ | refine WE.passRet ?_ | refine WE.outRet ?_ | refine WL.wanted rfl rfl rfl ?_ | refine WL.unwanted rfl rfl rfl rfl ?_ | refine WL.unwantedU rfl rfl rfl rfl ?_ | refine WL.unwanted0 rfl rfl rfl ?_
  try refine WL.wanted rfl rfl rfl ?_
  (apply WL.buildSlice; exact rfl; exact UndC.eq; exact SzC.eq; exact ZvC.eq; exact rfl; exact rfl; exact rfl; ((focus ((repeat (first | exact Flat.nil | (apply Flat.one; (first | exact rfl | assumption)) | (apply Flat.cons; exact rfl; exact rfl))); done))); exact rfl; exact rfl; intro c1)
  try refine WL.wanted rfl rfl rfl ?_
  apply WL.callA ([.blk b (Value.map (none) :: i64 (Mem.new).ar :: i64 (Mem.new).ac :: Value.bool (Mem.new).off :: ((Mem.new).pages.map str ++ (Mem.new).worn.map i64)).toArray 41, .omap none []])
  · exact rfl
  · exact rfl
  · exact fun w => Try.call11 _ w
  · (focus ((repeat (first | exact TakeL.nil | apply TakeL.cons | exact Take.head | apply Take.tail)); done))
  · exact fun w1 S1 hS1 hs1 ho1 => burn_spec b none Mem.new 0 [] 0 5 _ [[97, 98], [99]] [97, 98, 99] none w1 S1 hS1 ((ho1 _ _ .head).blkRow rfl (fun k u h => by simpa using h) (by simp)) (by simp) rfl hb1 k0 (by decide) (fun _ => rfl) rfl
  rintro _ _ ⟨rfl, rfl⟩
  first | refine WL.app4 ?_ | refine WL.app3 ?_ | refine WL.app2 ?_ | refine WL.app1 ?_ | refine WL.app0 ?_ | skip
  rw [show (Mem.new.burnt 0 5 [97, 98, 99] (cutF none (([97, 98, 99] : List UInt8).length : Int)).1).act none = m1 from hm1]
  repeat first
    | (apply WL.q; exact rfl; exact rfl; exact rfl; (first | (apply EvW.move; exact rfl) | (apply EvW.assign; exact rfl) | (apply EvW.nilPtr; exact rfl) | (apply EvW.fieldAddr0; exact rfl; exact FldC.eq) | (apply EvW.fieldAddr; exact rfl; exact FldC.eq) | (apply EvW.extract; exact rfl; exact rfl) | (apply EvW.cmpT; exact rfl; exact rfl; exact rfl; omega) | (apply EvW.cmpF; exact rfl; exact rfl; exact rfl; omega) | (apply EvW.cmp; exact rfl; exact rfl; exact rfl) | (apply EvW.pickT; exact rfl; exact rfl) | (apply EvW.pickF; exact rfl; exact rfl) | (apply EvW.notT; exact rfl) | (apply EvW.notF; exact rfl) | (apply EvW.notP; exact rfl) | (apply EvW.seqS; exact rfl; exact rfl) | (apply EvW.seq; exact rfl; exact rfl) | (apply EvW.build; exact PlC.eq; exact ZvC.eq; exact rfl; exact rfl; (focus ((repeat (first | exact Fills.nil | (apply Fills.cons; exact rfl; (first | assumption | exact rfl); exact rfl) | exact SetMany.nil | apply SetMany.cons | apply SetMany.succ)); done))) | (apply EvW.peqN; exact rfl; exact rfl; exact UndC.eq) | (apply EvW.fldRow; exact rfl; exact FldC.eq; assumption; omega) | (apply EvW.fldOwn; exact rfl; exact FldC.eq; (focus ((repeat (first | exact Take.head | apply Take.tail)); done)); omega) | (apply EvW.nilElemOwn; exact rfl; (focus ((repeat (first | exact Take.head | apply Take.tail)); done)); omega) | (apply EvW.nilElemRow; exact rfl; assumption; omega)))
    | refine WC.seq ?_ | refine WC.region ?_ | refine WL.nil ?_ | refine WE.next ?_ | refine WC.skip ?_ | refine WC.exit ?_ | refine WE.pass ?_ | refine WE.hit ?_ | refine WE.miss rfl ?_ | refine WE.out ?_ | refine WC.condT rfl ?_ | refine WC.condF rfl ?_ | refine WC.ret ?_ | refine WE.passRet ?_ | refine WE.outRet ?_ | refine WL.wanted rfl rfl rfl ?_ | refine WL.unwanted rfl rfl rfl rfl ?_ | refine WL.unwantedU rfl rfl rfl rfl ?_ | refine WL.unwanted0 rfl rfl rfl ?_
  try refine WL.wanted rfl rfl rfl ?_
  apply WL.callA ([.blk b (Value.map (none) :: i64 (m1).ar :: i64 (m1).ac :: Value.bool (m1).off :: ((m1).pages.map str ++ (m1).worn.map i64)).toArray 41])
  · exact rfl
  · exact rfl
  · exact fun w => Try.call13 _ w
  · (focus ((repeat (first | exact TakeL.nil | apply TakeL.cons | exact Take.head | apply Take.tail)); done))
  · exact fun w1 S1 hS1 hs1 ho1 => bareOf_spec b none m1 1 0 w1 S1 hS1 k1
  rintro _ _ ⟨rfl, rfl⟩
  first | refine WL.app4 ?_ | refine WL.app3 ?_ | refine WL.app2 ?_ | refine WL.app1 ?_ | refine WL.app0 ?_ | skip
  rw [hbr]
  repeat first
    | (apply WL.q; exact rfl; exact rfl; exact rfl; (first | (apply EvW.move; exact rfl) | (apply EvW.assign; exact rfl) | (apply EvW.nilPtr; exact rfl) | (apply EvW.fieldAddr0; exact rfl; exact FldC.eq) | (apply EvW.fieldAddr; exact rfl; exact FldC.eq) | (apply EvW.extract; exact rfl; exact rfl) | (apply EvW.cmpT; exact rfl; exact rfl; exact rfl; omega) | (apply EvW.cmpF; exact rfl; exact rfl; exact rfl; omega) | (apply EvW.cmp; exact rfl; exact rfl; exact rfl) | (apply EvW.pickT; exact rfl; exact rfl) | (apply EvW.pickF; exact rfl; exact rfl) | (apply EvW.notT; exact rfl) | (apply EvW.notF; exact rfl) | (apply EvW.notP; exact rfl) | (apply EvW.seqS; exact rfl; exact rfl) | (apply EvW.seq; exact rfl; exact rfl) | (apply EvW.build; exact PlC.eq; exact ZvC.eq; exact rfl; exact rfl; (focus ((repeat (first | exact Fills.nil | (apply Fills.cons; exact rfl; (first | assumption | exact rfl); exact rfl) | exact SetMany.nil | apply SetMany.cons | apply SetMany.succ)); done))) | (apply EvW.peqN; exact rfl; exact rfl; exact UndC.eq) | (apply EvW.fldRow; exact rfl; exact FldC.eq; assumption; omega) | (apply EvW.fldOwn; exact rfl; exact FldC.eq; (focus ((repeat (first | exact Take.head | apply Take.tail)); done)); omega) | (apply EvW.nilElemOwn; exact rfl; (focus ((repeat (first | exact Take.head | apply Take.tail)); done)); omega) | (apply EvW.nilElemRow; exact rfl; assumption; omega)))
    | refine WC.seq ?_ | refine WC.region ?_ | refine WL.nil ?_ | refine WE.next ?_ | refine WC.skip ?_ | refine WC.exit ?_ | refine WE.pass ?_ | refine WE.hit ?_ | refine WE.miss rfl ?_ | refine WE.out ?_ | refine WC.condT rfl ?_ | refine WC.condF rfl ?_ | refine WC.ret ?_ | refine WE.passRet ?_ | refine WE.outRet ?_ | refine WL.wanted rfl rfl rfl ?_ | refine WL.unwanted rfl rfl rfl rfl ?_ | refine WL.unwantedU rfl rfl rfl rfl ?_ | refine WL.unwanted0 rfl rfl rfl ?_
  try refine WL.wanted rfl rfl rfl ?_
  (apply WL.buildSlice; exact rfl; exact UndC.eq; exact SzC.eq; exact ZvC.eq; exact rfl; exact rfl; exact rfl; ((focus ((repeat (first | exact Flat.nil | (apply Flat.one; (first | exact rfl | assumption)) | (apply Flat.cons; exact rfl; exact rfl))); done))); exact rfl; exact rfl; intro c2)
  try refine WL.wanted rfl rfl rfl ?_
  apply WL.callA ([.blk b (Value.map (none) :: i64 (m1).ar :: i64 (m1).ac :: Value.bool (m1).off :: ((m1).pages.map str ++ (m1).worn.map i64)).toArray 41])
  · exact rfl
  · exact rfl
  · exact fun w => Try.call11 _ w
  · (focus ((repeat (first | exact TakeL.nil | apply TakeL.cons | exact Take.head | apply Take.tail)); done))
  · exact fun w1 S1 hS1 hs1 ho1 => burn_bad b none m1 1 0 7 _ [[120]] [120] w1 S1 hS1 ((ho1 _ _ .head).blkRow rfl (fun k u h => by simpa using h) (by simp)) (by simp) rfl (by decide) k1 (by rw [hbx]; decide)
  rintro _ _ ⟨rfl, rfl⟩
  first | refine WL.app4 ?_ | refine WL.app3 ?_ | refine WL.app2 ?_ | refine WL.app1 ?_ | refine WL.app0 ?_ | skip
  rw [hbx]
  repeat first
    | (apply WL.q; exact rfl; exact rfl; exact rfl; (first | (apply EvW.move; exact rfl) | (apply EvW.assign; exact rfl) | (apply EvW.nilPtr; exact rfl) | (apply EvW.fieldAddr0; exact rfl; exact FldC.eq) | (apply EvW.fieldAddr; exact rfl; exact FldC.eq) | (apply EvW.extract; exact rfl; exact rfl) | (apply EvW.cmpT; exact rfl; exact rfl; exact rfl; omega) | (apply EvW.cmpF; exact rfl; exact rfl; exact rfl; omega) | (apply EvW.cmp; exact rfl; exact rfl; exact rfl) | (apply EvW.pickT; exact rfl; exact rfl) | (apply EvW.pickF; exact rfl; exact rfl) | (apply EvW.notT; exact rfl) | (apply EvW.notF; exact rfl) | (apply EvW.notP; exact rfl) | (apply EvW.seqS; exact rfl; exact rfl) | (apply EvW.seq; exact rfl; exact rfl) | (apply EvW.build; exact PlC.eq; exact ZvC.eq; exact rfl; exact rfl; (focus ((repeat (first | exact Fills.nil | (apply Fills.cons; exact rfl; (first | assumption | exact rfl); exact rfl) | exact SetMany.nil | apply SetMany.cons | apply SetMany.succ)); done))) | (apply EvW.peqN; exact rfl; exact rfl; exact UndC.eq) | (apply EvW.fldRow; exact rfl; exact FldC.eq; assumption; omega) | (apply EvW.fldOwn; exact rfl; exact FldC.eq; (focus ((repeat (first | exact Take.head | apply Take.tail)); done)); omega) | (apply EvW.nilElemOwn; exact rfl; (focus ((repeat (first | exact Take.head | apply Take.tail)); done)); omega) | (apply EvW.nilElemRow; exact rfl; assumption; omega)))
    | refine WC.seq ?_ | refine WC.region ?_ | refine WL.nil ?_ | refine WE.next ?_ | refine WC.skip ?_ | refine WC.exit ?_ | refine WE.pass ?_ | refine WE.hit ?_ | refine WE.miss rfl ?_ | refine WE.out ?_ | refine WC.condT rfl ?_ | refine WC.condF rfl ?_ | refine WC.ret ?_ | refine WE.passRet ?_ | refine WE.outRet ?_ | refine WL.wanted rfl rfl rfl ?_ | refine WL.unwanted rfl rfl rfl rfl ?_ | refine WL.unwantedU rfl rfl rfl rfl ?_ | refine WL.unwanted0 rfl rfl rfl ?_
  try refine WL.wanted rfl rfl rfl ?_
  (apply WL.buildSlice; exact rfl; exact UndC.eq; exact SzC.eq; exact ZvC.eq; exact rfl; exact rfl; exact rfl; ((focus ((repeat (first | exact Flat.nil | (apply Flat.one; (first | exact rfl | assumption)) | (apply Flat.cons; exact rfl; exact rfl))); done))); exact rfl; exact rfl; intro c3)
  try refine WL.wanted rfl rfl rfl ?_
  apply WL.callA ([.blk b (Value.map (none) :: i64 (m1).ar :: i64 (m1).ac :: Value.bool (m1).off :: ((m1).pages.map str ++ (m1).worn.map i64)).toArray 41])
  · exact rfl
  · exact rfl
  · exact fun w => Try.call16 _ w
  · (focus ((repeat (first | exact TakeL.nil | apply TakeL.cons | exact Take.head | apply Take.tail)); done))
  · exact fun w1 S1 hS1 hs1 ho1 => arm_spec b none m1.ar m1.ac m1.off (m1.pages.map str ++ m1.worn.map i64) 41 _ [⟨1, 2⟩] w1 S1 hS1 ((ho1 _ _ .head).blkRow rfl (fun k u h => by rw [Nat.zero_add]; exact h) (by simp)) (by decide)
  rintro _ _ ⟨mb, rfl, rfl⟩
  first | refine WL.app4 ?_ | refine WL.app3 ?_ | refine WL.app2 ?_ | refine WL.app1 ?_ | refine WL.app0 ?_ | skip
  subst hm2
  repeat first
    | (apply WL.q; exact rfl; exact rfl; exact rfl; (first | (apply EvW.move; exact rfl) | (apply EvW.assign; exact rfl) | (apply EvW.nilPtr; exact rfl) | (apply EvW.fieldAddr0; exact rfl; exact FldC.eq) | (apply EvW.fieldAddr; exact rfl; exact FldC.eq) | (apply EvW.extract; exact rfl; exact rfl) | (apply EvW.cmpT; exact rfl; exact rfl; exact rfl; omega) | (apply EvW.cmpF; exact rfl; exact rfl; exact rfl; omega) | (apply EvW.cmp; exact rfl; exact rfl; exact rfl) | (apply EvW.pickT; exact rfl; exact rfl) | (apply EvW.pickF; exact rfl; exact rfl) | (apply EvW.notT; exact rfl) | (apply EvW.notF; exact rfl) | (apply EvW.notP; exact rfl) | (apply EvW.seqS; exact rfl; exact rfl) | (apply EvW.seq; exact rfl; exact rfl) | (apply EvW.build; exact PlC.eq; exact ZvC.eq; exact rfl; exact rfl; (focus ((repeat (first | exact Fills.nil | (apply Fills.cons; exact rfl; (first | assumption | exact rfl); exact rfl) | exact SetMany.nil | apply SetMany.cons | apply SetMany.succ)); done))) | (apply EvW.peqN; exact rfl; exact rfl; exact UndC.eq) | (apply EvW.fldRow; exact rfl; exact FldC.eq; assumption; omega) | (apply EvW.fldOwn; exact rfl; exact FldC.eq; (focus ((repeat (first | exact Take.head | apply Take.tail)); done)); omega) | (apply EvW.nilElemOwn; exact rfl; (focus ((repeat (first | exact Take.head | apply Take.tail)); done)); omega) | (apply EvW.nilElemRow; exact rfl; assumption; omega)))
    | refine WC.seq ?_ | refine WC.region ?_ | refine WL.nil ?_ | refine WE.next ?_ | refine WC.skip ?_ | refine WC.exit ?_ | refine WE.pass ?_ | refine WE.hit ?_ | refine WE.miss rfl ?_ | refine WE.out ?_ | refine WC.condT rfl ?_ | refine WC.condF rfl ?_ | refine WC.ret ?_ | refine WE.passRet ?_ | refine WE.outRet ?_ | refine WL.wanted rfl rfl rfl ?_ | refine WL.unwanted rfl rfl rfl rfl ?_ | refine WL.unwantedU rfl rfl rfl rfl ?_ | refine WL.unwanted0 rfl rfl rfl ?_
  try refine WL.wanted rfl rfl rfl ?_
  (apply WL.buildSlice; exact rfl; exact UndC.eq; exact SzC.eq; exact ZvC.eq; exact rfl; exact rfl; exact rfl; ((focus ((repeat (first | exact Flat.nil | (apply Flat.one; (first | exact rfl | assumption)) | (apply Flat.cons; exact rfl; exact rfl))); done))); exact rfl; exact rfl; intro c4)
  try refine WL.wanted rfl rfl rfl ?_
  apply WL.callA ([.blk b (Value.map (some mb) :: i64 ({ m1 with ar := 0 }).ar :: i64 ({ m1 with ar := 0 }).ac :: Value.bool ({ m1 with ar := 0 }).off :: (({ m1 with ar := 0 }).pages.map str ++ ({ m1 with ar := 0 }).worn.map i64)).toArray 41, .omap (some mb) (armM [⟨1, 2⟩])])
  · exact rfl
  · exact rfl
  · exact fun w => Try.call11 _ w
  · (focus ((repeat (first | exact TakeL.nil | apply TakeL.cons | exact Take.head | apply Take.tail)); done))
  · exact fun w1 S1 hS1 hs1 ho1 => burn_spec b (some mb) { m1 with ar := 0 } 1 (armM [⟨1, 2⟩]) 3 0 _ [[97, 98, 99]] [97, 98, 99] none w1 S1 hS1 ((ho1 _ _ .head).blkRow rfl (fun k u h => by simpa using h) (by simp)) (by simp) rfl hb3 k2 (by decide) (fun h => absurd h (by simp)) rfl
  rintro _ _ ⟨rfl, rfl⟩
  first | refine WL.app4 ?_ | refine WL.app3 ?_ | refine WL.app2 ?_ | refine WL.app1 ?_ | refine WL.app0 ?_ | skip
  rw [show (Mem.burnt { m1 with ar := 0 } 3 0 [97, 98, 99] (cutF none (([97, 98, 99] : List UInt8).length : Int)).1).act none = m3 from hm3]
  repeat first
    | (apply WL.q; exact rfl; exact rfl; exact rfl; (first | (apply EvW.move; exact rfl) | (apply EvW.assign; exact rfl) | (apply EvW.nilPtr; exact rfl) | (apply EvW.fieldAddr0; exact rfl; exact FldC.eq) | (apply EvW.fieldAddr; exact rfl; exact FldC.eq) | (apply EvW.extract; exact rfl; exact rfl) | (apply EvW.cmpT; exact rfl; exact rfl; exact rfl; omega) | (apply EvW.cmpF; exact rfl; exact rfl; exact rfl; omega) | (apply EvW.cmp; exact rfl; exact rfl; exact rfl) | (apply EvW.pickT; exact rfl; exact rfl) | (apply EvW.pickF; exact rfl; exact rfl) | (apply EvW.notT; exact rfl) | (apply EvW.notF; exact rfl) | (apply EvW.notP; exact rfl) | (apply EvW.seqS; exact rfl; exact rfl) | (apply EvW.seq; exact rfl; exact rfl) | (apply EvW.build; exact PlC.eq; exact ZvC.eq; exact rfl; exact rfl; (focus ((repeat (first | exact Fills.nil | (apply Fills.cons; exact rfl; (first | assumption | exact rfl); exact rfl) | exact SetMany.nil | apply SetMany.cons | apply SetMany.succ)); done))) | (apply EvW.peqN; exact rfl; exact rfl; exact UndC.eq) | (apply EvW.fldRow; exact rfl; exact FldC.eq; assumption; omega) | (apply EvW.fldOwn; exact rfl; exact FldC.eq; (focus ((repeat (first | exact Take.head | apply Take.tail)); done)); omega) | (apply EvW.nilElemOwn; exact rfl; (focus ((repeat (first | exact Take.head | apply Take.tail)); done)); omega) | (apply EvW.nilElemRow; exact rfl; assumption; omega)))
    | refine WC.seq ?_ | refine WC.region ?_ | refine WL.nil ?_ | refine WE.next ?_ | refine WC.skip ?_ | refine WC.exit ?_ | refine WE.pass ?_ | refine WE.hit ?_ | refine WE.miss rfl ?_ | refine WE.out ?_ | refine WC.condT rfl ?_ | refine WC.condF rfl ?_ | refine WC.ret ?_ | refine WE.passRet ?_ | refine WE.outRet ?_ | refine WL.wanted rfl rfl rfl ?_ | refine WL.unwanted rfl rfl rfl rfl ?_ | refine WL.unwantedU rfl rfl rfl rfl ?_ | refine WL.unwanted0 rfl rfl rfl ?_
  try refine WL.wanted rfl rfl rfl ?_
  (apply WL.buildSlice; exact rfl; exact UndC.eq; exact SzC.eq; exact ZvC.eq; exact rfl; exact rfl; exact rfl; ((focus ((repeat (first | exact Flat.nil | (apply Flat.one; (first | exact rfl | assumption)) | (apply Flat.cons; exact rfl; exact rfl))); done))); exact rfl; exact rfl; intro c5)
  try refine WL.wanted rfl rfl rfl ?_
  apply WL.callA ([.blk b (Value.map (some mb) :: i64 (m3).ar :: i64 (m3).ac :: Value.bool (m3).off :: ((m3).pages.map str ++ (m3).worn.map i64)).toArray 41, .omap (some mb) (mdel 0 (armM [⟨1, 2⟩]))])
  · exact rfl
  · exact rfl
  · exact fun w => Try.call11 _ w
  · (focus ((repeat (first | exact TakeL.nil | apply TakeL.cons | exact Take.head | apply Take.tail)); done))
  · exact fun w1 S1 hS1 hs1 ho1 => burn_spec b (some mb) m3 2 (mdel 0 (armM [⟨1, 2⟩])) 3 3 _ [[100, 101, 102, 103]] [100, 101, 102, 103] (some 2) w1 S1 hS1 ((ho1 _ _ .head).blkRow rfl (fun k u h => by simpa using h) (by simp)) (by simp) rfl hb4 k3 (by decide) (fun h => absurd h (by simp)) (by rw [a3]; rfl)
  rintro _ _ ⟨rfl, rfl⟩
  first | refine WL.app4 ?_ | refine WL.app3 ?_ | refine WL.app2 ?_ | refine WL.app1 ?_ | refine WL.app0 ?_ | skip
  rw [show (m3.burnt 3 3 [100, 101, 102, 103] (cutF (some 2) (([100, 101, 102, 103] : List UInt8).length : Int)).1).act (some 2) = m4 from hm4]
  repeat first
    | (apply WL.q; exact rfl; exact rfl; exact rfl; (first | (apply EvW.move; exact rfl) | (apply EvW.assign; exact rfl) | (apply EvW.nilPtr; exact rfl) | (apply EvW.fieldAddr0; exact rfl; exact FldC.eq) | (apply EvW.fieldAddr; exact rfl; exact FldC.eq) | (apply EvW.extract; exact rfl; exact rfl) | (apply EvW.cmpT; exact rfl; exact rfl; exact rfl; omega) | (apply EvW.cmpF; exact rfl; exact rfl; exact rfl; omega) | (apply EvW.cmp; exact rfl; exact rfl; exact rfl) | (apply EvW.pickT; exact rfl; exact rfl) | (apply EvW.pickF; exact rfl; exact rfl) | (apply EvW.notT; exact rfl) | (apply EvW.notF; exact rfl) | (apply EvW.notP; exact rfl) | (apply EvW.seqS; exact rfl; exact rfl) | (apply EvW.seq; exact rfl; exact rfl) | (apply EvW.build; exact PlC.eq; exact ZvC.eq; exact rfl; exact rfl; (focus ((repeat (first | exact Fills.nil | (apply Fills.cons; exact rfl; (first | assumption | exact rfl); exact rfl) | exact SetMany.nil | apply SetMany.cons | apply SetMany.succ)); done))) | (apply EvW.peqN; exact rfl; exact rfl; exact UndC.eq) | (apply EvW.fldRow; exact rfl; exact FldC.eq; assumption; omega) | (apply EvW.fldOwn; exact rfl; exact FldC.eq; (focus ((repeat (first | exact Take.head | apply Take.tail)); done)); omega) | (apply EvW.nilElemOwn; exact rfl; (focus ((repeat (first | exact Take.head | apply Take.tail)); done)); omega) | (apply EvW.nilElemRow; exact rfl; assumption; omega)))
    | refine WC.seq ?_ | refine WC.region ?_ | refine WL.nil ?_ | refine WE.next ?_ | refine WC.skip ?_ | refine WC.exit ?_ | refine WE.pass ?_ | refine WE.hit ?_ | refine WE.miss rfl ?_ | refine WE.out ?_ | refine WC.condT rfl ?_ | refine WC.condF rfl ?_ | refine WC.ret ?_ | refine WE.passRet ?_ | refine WE.outRet ?_ | refine WL.wanted rfl rfl rfl ?_ | refine WL.unwanted rfl rfl rfl rfl ?_ | refine WL.unwantedU rfl rfl rfl rfl ?_ | refine WL.unwanted0 rfl rfl rfl ?_
  try refine WL.wanted rfl rfl rfl ?_
  apply WL.callA ([.blk b (Value.map (some mb) :: i64 (m4).ar :: i64 (m4).ac :: Value.bool (m4).off :: ((m4).pages.map str ++ (m4).worn.map i64)).toArray 41])
  · exact rfl
  · exact rfl
  · exact fun w => Try.call17 _ w
  · (focus ((repeat (first | exact TakeL.nil | apply TakeL.cons | exact Take.head | apply Take.tail)); done))
  · exact fun w1 S1 hS1 hs1 ho1 => down_spec b (some mb) m4 true w1 S1 hS1 o4
  rintro _ _ ⟨rfl, rfl⟩
  first | refine WL.app4 ?_ | refine WL.app3 ?_ | refine WL.app2 ?_ | refine WL.app1 ?_ | refine WL.app0 ?_ | skip
  repeat first
    | (apply WL.q; exact rfl; exact rfl; exact rfl; (first | (apply EvW.move; exact rfl) | (apply EvW.assign; exact rfl) | (apply EvW.nilPtr; exact rfl) | (apply EvW.fieldAddr0; exact rfl; exact FldC.eq) | (apply EvW.fieldAddr; exact rfl; exact FldC.eq) | (apply EvW.extract; exact rfl; exact rfl) | (apply EvW.cmpT; exact rfl; exact rfl; exact rfl; omega) | (apply EvW.cmpF; exact rfl; exact rfl; exact rfl; omega) | (apply EvW.cmp; exact rfl; exact rfl; exact rfl) | (apply EvW.pickT; exact rfl; exact rfl) | (apply EvW.pickF; exact rfl; exact rfl) | (apply EvW.notT; exact rfl) | (apply EvW.notF; exact rfl) | (apply EvW.notP; exact rfl) | (apply EvW.seqS; exact rfl; exact rfl) | (apply EvW.seq; exact rfl; exact rfl) | (apply EvW.build; exact PlC.eq; exact ZvC.eq; exact rfl; exact rfl; (focus ((repeat (first | exact Fills.nil | (apply Fills.cons; exact rfl; (first | assumption | exact rfl); exact rfl) | exact SetMany.nil | apply SetMany.cons | apply SetMany.succ)); done))) | (apply EvW.peqN; exact rfl; exact rfl; exact UndC.eq) | (apply EvW.fldRow; exact rfl; exact FldC.eq; assumption; omega) | (apply EvW.fldOwn; exact rfl; exact FldC.eq; (focus ((repeat (first | exact Take.head | apply Take.tail)); done)); omega) | (apply EvW.nilElemOwn; exact rfl; (focus ((repeat (first | exact Take.head | apply Take.tail)); done)); omega) | (apply EvW.nilElemRow; exact rfl; assumption; omega)))
    | refine WC.seq ?_ | refine WC.region ?_ | refine WL.nil ?_ | refine WE.next ?_ | refine WC.skip ?_ | refine WC.exit ?_ | refine WE.pass ?_ | refine WE.hit ?_ | refine WE.miss rfl ?_ | refine WE.out ?_ | refine WC.condT rfl ?_ | refine WC.condF rfl ?_ | refine WC.ret ?_ | refine WE.passRet ?_ | refine WE.outRet ?_ | refine WL.wanted rfl rfl rfl ?_ | refine WL.unwanted rfl rfl rfl rfl ?_ | refine WL.unwantedU rfl rfl rfl rfl ?_ | refine WL.unwanted0 rfl rfl rfl ?_
  try refine WL.wanted rfl rfl rfl ?_
  apply WL.callA ([.blk b (Value.map (some mb) :: i64 (m4).ar :: i64 (m4).ac :: Value.bool (m4).off :: ((m4).pages.map str ++ (m4).worn.map i64)).toArray 41])
  · exact rfl
  · exact rfl
  · exact fun w => Try.call14 _ w
  · (focus ((repeat (first | exact TakeL.nil | apply TakeL.cons | exact Take.head | apply Take.tail)); done))
  · exact fun w1 S1 hS1 hs1 ho1 => again_spec b (some mb) m4 3 w1 S1 hS1 k4
  rintro _ _ ⟨q, rfl, rfl⟩
  first | refine WL.app4 ?_ | refine WL.app3 ?_ | refine WL.app2 ?_ | refine WL.app1 ?_ | refine WL.app0 ?_ | skip
  refine WL.omapNil ?_
  repeat first
    | (apply WL.q; exact rfl; exact rfl; exact rfl; (first | (apply EvW.move; exact rfl) | (apply EvW.assign; exact rfl) | (apply EvW.nilPtr; exact rfl) | (apply EvW.fieldAddr0; exact rfl; exact FldC.eq) | (apply EvW.fieldAddr; exact rfl; exact FldC.eq) | (apply EvW.extract; exact rfl; exact rfl) | (apply EvW.cmpT; exact rfl; exact rfl; exact rfl; omega) | (apply EvW.cmpF; exact rfl; exact rfl; exact rfl; omega) | (apply EvW.cmp; exact rfl; exact rfl; exact rfl) | (apply EvW.pickT; exact rfl; exact rfl) | (apply EvW.pickF; exact rfl; exact rfl) | (apply EvW.notT; exact rfl) | (apply EvW.notF; exact rfl) | (apply EvW.notP; exact rfl) | (apply EvW.seqS; exact rfl; exact rfl) | (apply EvW.seq; exact rfl; exact rfl) | (apply EvW.build; exact PlC.eq; exact ZvC.eq; exact rfl; exact rfl; (focus ((repeat (first | exact Fills.nil | (apply Fills.cons; exact rfl; (first | assumption | exact rfl); exact rfl) | exact SetMany.nil | apply SetMany.cons | apply SetMany.succ)); done))) | (apply EvW.peqN; exact rfl; exact rfl; exact UndC.eq) | (apply EvW.fldRow; exact rfl; exact FldC.eq; assumption; omega) | (apply EvW.fldOwn; exact rfl; exact FldC.eq; (focus ((repeat (first | exact Take.head | apply Take.tail)); done)); omega) | (apply EvW.nilElemOwn; exact rfl; (focus ((repeat (first | exact Take.head | apply Take.tail)); done)); omega) | (apply EvW.nilElemRow; exact rfl; assumption; omega)))
    | refine WC.seq ?_ | refine WC.region ?_ | refine WL.nil ?_ | refine WE.next ?_ | refine WC.skip ?_ | refine WC.exit ?_ | refine WE.pass ?_ | refine WE.hit ?_ | refine WE.miss rfl ?_ | refine WE.out ?_ | refine WC.condT rfl ?_ | refine WC.condF rfl ?_ | refine WC.ret ?_ | refine WE.passRet ?_ | refine WE.outRet ?_ | refine WL.wanted rfl rfl rfl ?_ | refine WL.unwanted rfl rfl rfl rfl ?_ | refine WL.unwantedU rfl rfl rfl rfl ?_ | refine WL.unwanted0 rfl rfl rfl ?_
  try refine WL.wanted rfl rfl rfl ?_
  apply WL.callA ([.blk q (Value.map (none) :: i64 (m4.again).ar :: i64 (m4.again).ac :: Value.bool (m4.again).off :: ((m4.again).pages.map str ++ (m4.again).worn.map i64)).toArray 41])
  · exact rfl
  · exact rfl
  · exact fun w => Try.call12 _ w
  · (focus ((repeat (first | exact TakeL.nil | apply TakeL.cons | exact Take.head | apply Take.tail)); done))
  · exact fun w1 S1 hS1 hs1 ho1 => read_spec q none m4.again 3 3 0 6 w1 S1 hS1 k5
  rintro _ _ ⟨rfl, rfl⟩
  first | refine WL.app4 ?_ | refine WL.app3 ?_ | refine WL.app2 ?_ | refine WL.app1 ?_ | refine WL.app0 ?_ | skip
  rw [hrd]
  dsimp only
  repeat first
    | (apply WL.q; exact rfl; exact rfl; exact rfl; (first | (apply EvW.move; exact rfl) | (apply EvW.assign; exact rfl) | (apply EvW.nilPtr; exact rfl) | (apply EvW.fieldAddr0; exact rfl; exact FldC.eq) | (apply EvW.fieldAddr; exact rfl; exact FldC.eq) | (apply EvW.extract; exact rfl; exact rfl) | (apply EvW.cmpT; exact rfl; exact rfl; exact rfl; omega) | (apply EvW.cmpF; exact rfl; exact rfl; exact rfl; omega) | (apply EvW.cmp; exact rfl; exact rfl; exact rfl) | (apply EvW.pickT; exact rfl; exact rfl) | (apply EvW.pickF; exact rfl; exact rfl) | (apply EvW.notT; exact rfl) | (apply EvW.notF; exact rfl) | (apply EvW.notP; exact rfl) | (apply EvW.seqS; exact rfl; exact rfl) | (apply EvW.seq; exact rfl; exact rfl) | (apply EvW.build; exact PlC.eq; exact ZvC.eq; exact rfl; exact rfl; (focus ((repeat (first | exact Fills.nil | (apply Fills.cons; exact rfl; (first | assumption | exact rfl); exact rfl) | exact SetMany.nil | apply SetMany.cons | apply SetMany.succ)); done))) | (apply EvW.peqN; exact rfl; exact rfl; exact UndC.eq) | (apply EvW.fldRow; exact rfl; exact FldC.eq; assumption; omega) | (apply EvW.fldOwn; exact rfl; exact FldC.eq; (focus ((repeat (first | exact Take.head | apply Take.tail)); done)); omega) | (apply EvW.nilElemOwn; exact rfl; (focus ((repeat (first | exact Take.head | apply Take.tail)); done)); omega) | (apply EvW.nilElemRow; exact rfl; assumption; omega)))
    | refine WC.seq ?_ | refine WC.region ?_ | refine WL.nil ?_ | refine WE.next ?_ | refine WC.skip ?_ | refine WC.exit ?_ | refine WE.pass ?_ | refine WE.hit ?_ | refine WE.miss rfl ?_ | refine WE.out ?_ | refine WC.condT rfl ?_ | refine WC.condF rfl ?_ | refine WC.ret ?_ | refine WE.passRet ?_ | refine WE.outRet ?_ | refine WL.wanted rfl rfl rfl ?_ | refine WL.unwanted rfl rfl rfl rfl ?_ | refine WL.unwantedU rfl rfl rfl rfl ?_ | refine WL.unwanted0 rfl rfl rfl ?_
  try refine WL.wanted rfl rfl rfl ?_
  apply WL.callA ([.blk q (Value.map (none) :: i64 (m4.again).ar :: i64 (m4.again).ac :: Value.bool (m4.again).off :: ((m4.again).pages.map str ++ (m4.again).worn.map i64)).toArray 41, .omap none []])
  · exact rfl
  · exact rfl
  · exact fun w => Try.call15 _ w
  · (focus ((repeat (first | exact TakeL.nil | apply TakeL.cons | exact Take.head | apply Take.tail)); done))
  · exact fun w1 S1 hS1 hs1 ho1 => erase_spec q none m4.again 3 [] 0 none w1 S1 hS1 hp6 k5 (by decide) (fun _ => rfl) rfl
  rintro _ _ ⟨rfl, rfl⟩
  first | refine WL.app4 ?_ | refine WL.app3 ?_ | refine WL.app2 ?_ | refine WL.app1 ?_ | refine WL.app0 ?_ | skip
  rw [hm6]
  repeat first
    | (apply WL.q; exact rfl; exact rfl; exact rfl; (first | (apply EvW.move; exact rfl) | (apply EvW.assign; exact rfl) | (apply EvW.nilPtr; exact rfl) | (apply EvW.fieldAddr0; exact rfl; exact FldC.eq) | (apply EvW.fieldAddr; exact rfl; exact FldC.eq) | (apply EvW.extract; exact rfl; exact rfl) | (apply EvW.cmpT; exact rfl; exact rfl; exact rfl; omega) | (apply EvW.cmpF; exact rfl; exact rfl; exact rfl; omega) | (apply EvW.cmp; exact rfl; exact rfl; exact rfl) | (apply EvW.pickT; exact rfl; exact rfl) | (apply EvW.pickF; exact rfl; exact rfl) | (apply EvW.notT; exact rfl) | (apply EvW.notF; exact rfl) | (apply EvW.notP; exact rfl) | (apply EvW.seqS; exact rfl; exact rfl) | (apply EvW.seq; exact rfl; exact rfl) | (apply EvW.build; exact PlC.eq; exact ZvC.eq; exact rfl; exact rfl; (focus ((repeat (first | exact Fills.nil | (apply Fills.cons; exact rfl; (first | assumption | exact rfl); exact rfl) | exact SetMany.nil | apply SetMany.cons | apply SetMany.succ)); done))) | (apply EvW.peqN; exact rfl; exact rfl; exact UndC.eq) | (apply EvW.fldRow; exact rfl; exact FldC.eq; assumption; omega) | (apply EvW.fldOwn; exact rfl; exact FldC.eq; (focus ((repeat (first | exact Take.head | apply Take.tail)); done)); omega) | (apply EvW.nilElemOwn; exact rfl; (focus ((repeat (first | exact Take.head | apply Take.tail)); done)); omega) | (apply EvW.nilElemRow; exact rfl; assumption; omega)))
    | refine WC.seq ?_ | refine WC.region ?_ | refine WL.nil ?_ | refine WE.next ?_ | refine WC.skip ?_ | refine WC.exit ?_ | refine WE.pass ?_ | refine WE.hit ?_ | refine WE.miss rfl ?_ | refine WE.out ?_ | refine WC.condT rfl ?_ | refine WC.condF rfl ?_ | refine WC.ret ?_ | refine WE.passRet ?_ | refine WE.outRet ?_ | refine WL.wanted rfl rfl rfl ?_ | refine WL.unwanted rfl rfl rfl rfl ?_ | refine WL.unwantedU rfl rfl rfl rfl ?_ | refine WL.unwanted0 rfl rfl rfl ?_
  try refine WL.wanted rfl rfl rfl ?_
  apply WL.callA ([.blk q (Value.map (none) :: i64 (m6).ar :: i64 (m6).ac :: Value.bool (m6).off :: ((m6).pages.map str ++ (m6).worn.map i64)).toArray 41])
  · exact rfl
  · exact rfl
  · exact fun w => Try.call13 _ w
  · (focus ((repeat (first | exact TakeL.nil | apply TakeL.cons | exact Take.head | apply Take.tail)); done))
  · exact fun w1 S1 hS1 hs1 ho1 => bareOf_spec q none m6 4 0 w1 S1 hS1 k6
  rintro _ _ ⟨rfl, rfl⟩
  first | refine WL.app4 ?_ | refine WL.app3 ?_ | refine WL.app2 ?_ | refine WL.app1 ?_ | refine WL.app0 ?_ | skip
  rw [b6]
  repeat first
    | (apply WL.q; exact rfl; exact rfl; exact rfl; (first | (apply EvW.move; exact rfl) | (apply EvW.assign; exact rfl) | (apply EvW.nilPtr; exact rfl) | (apply EvW.fieldAddr0; exact rfl; exact FldC.eq) | (apply EvW.fieldAddr; exact rfl; exact FldC.eq) | (apply EvW.extract; exact rfl; exact rfl) | (apply EvW.cmpT; exact rfl; exact rfl; exact rfl; omega) | (apply EvW.cmpF; exact rfl; exact rfl; exact rfl; omega) | (apply EvW.cmp; exact rfl; exact rfl; exact rfl) | (apply EvW.pickT; exact rfl; exact rfl) | (apply EvW.pickF; exact rfl; exact rfl) | (apply EvW.notT; exact rfl) | (apply EvW.notF; exact rfl) | (apply EvW.notP; exact rfl) | (apply EvW.seqS; exact rfl; exact rfl) | (apply EvW.seq; exact rfl; exact rfl) | (apply EvW.build; exact PlC.eq; exact ZvC.eq; exact rfl; exact rfl; (focus ((repeat (first | exact Fills.nil | (apply Fills.cons; exact rfl; (first | assumption | exact rfl); exact rfl) | exact SetMany.nil | apply SetMany.cons | apply SetMany.succ)); done))) | (apply EvW.peqN; exact rfl; exact rfl; exact UndC.eq) | (apply EvW.fldRow; exact rfl; exact FldC.eq; assumption; omega) | (apply EvW.fldOwn; exact rfl; exact FldC.eq; (focus ((repeat (first | exact Take.head | apply Take.tail)); done)); omega) | (apply EvW.nilElemOwn; exact rfl; (focus ((repeat (first | exact Take.head | apply Take.tail)); done)); omega) | (apply EvW.nilElemRow; exact rfl; assumption; omega)))
    | refine WC.seq ?_ | refine WC.region ?_ | refine WL.nil ?_ | refine WE.next ?_ | refine WC.skip ?_ | refine WC.exit ?_ | refine WE.pass ?_ | refine WE.hit ?_ | refine WE.miss rfl ?_ | refine WE.out ?_ | refine WC.condT rfl ?_ | refine WC.condF rfl ?_ | refine WC.ret ?_ | refine WE.passRet ?_ | refine WE.outRet ?_ | refine WL.wanted rfl rfl rfl ?_ | refine WL.unwanted rfl rfl rfl rfl ?_ | refine WL.unwantedU rfl rfl rfl rfl ?_ | refine WL.unwanted0 rfl rfl rfl ?_
  try refine WL.wanted rfl rfl rfl ?_
  apply WL.callA ([.blk q (Value.map (none) :: i64 (m6).ar :: i64 (m6).ac :: Value.bool (m6).off :: ((m6).pages.map str ++ (m6).worn.map i64)).toArray 41])
  · exact rfl
  · exact rfl
  · exact fun w => Try.call27 _ w
  · (focus ((repeat (first | exact TakeL.nil | apply TakeL.cons | exact Take.head | apply Take.tail)); done))
  · exact fun w1 S1 hS1 hs1 ho1 => worn_spec q none m6 4 0 w1 S1 hS1 k6
  rintro _ _ ⟨rfl, rfl⟩
  first | refine WL.app4 ?_ | refine WL.app3 ?_ | refine WL.app2 ?_ | refine WL.app1 ?_ | refine WL.app0 ?_ | skip
  rw [w6]
  repeat first
    | (apply WL.q; exact rfl; exact rfl; exact rfl; (first | (apply EvW.move; exact rfl) | (apply EvW.assign; exact rfl) | (apply EvW.nilPtr; exact rfl) | (apply EvW.fieldAddr0; exact rfl; exact FldC.eq) | (apply EvW.fieldAddr; exact rfl; exact FldC.eq) | (apply EvW.extract; exact rfl; exact rfl) | (apply EvW.cmpT; exact rfl; exact rfl; exact rfl; omega) | (apply EvW.cmpF; exact rfl; exact rfl; exact rfl; omega) | (apply EvW.cmp; exact rfl; exact rfl; exact rfl) | (apply EvW.pickT; exact rfl; exact rfl) | (apply EvW.pickF; exact rfl; exact rfl) | (apply EvW.notT; exact rfl) | (apply EvW.notF; exact rfl) | (apply EvW.notP; exact rfl) | (apply EvW.seqS; exact rfl; exact rfl) | (apply EvW.seq; exact rfl; exact rfl) | (apply EvW.build; exact PlC.eq; exact ZvC.eq; exact rfl; exact rfl; (focus ((repeat (first | exact Fills.nil | (apply Fills.cons; exact rfl; (first | assumption | exact rfl); exact rfl) | exact SetMany.nil | apply SetMany.cons | apply SetMany.succ)); done))) | (apply EvW.peqN; exact rfl; exact rfl; exact UndC.eq) | (apply EvW.fldRow; exact rfl; exact FldC.eq; assumption; omega) | (apply EvW.fldOwn; exact rfl; exact FldC.eq; (focus ((repeat (first | exact Take.head | apply Take.tail)); done)); omega) | (apply EvW.nilElemOwn; exact rfl; (focus ((repeat (first | exact Take.head | apply Take.tail)); done)); omega) | (apply EvW.nilElemRow; exact rfl; assumption; omega)))
    | refine WC.seq ?_ | refine WC.region ?_ | refine WL.nil ?_ | refine WE.next ?_ | refine WC.skip ?_ | refine WC.exit ?_ | refine WE.pass ?_ | refine WE.hit ?_ | refine WE.miss rfl ?_ | refine WE.out ?_ | refine WC.condT rfl ?_ | refine WC.condF rfl ?_ | refine WC.ret ?_ | refine WE.passRet ?_ | refine WE.outRet ?_ | refine WL.wanted rfl rfl rfl ?_ | refine WL.unwanted rfl rfl rfl rfl ?_ | refine WL.unwantedU rfl rfl rfl rfl ?_ | refine WL.unwanted0 rfl rfl rfl ?_
  try refine WL.wanted rfl rfl rfl ?_
  apply WL.callA ([.blk b (Value.map (some mb) :: i64 (m4).ar :: i64 (m4).ac :: Value.bool (m4).off :: ((m4).pages.map str ++ (m4).worn.map i64)).toArray 41])
  · exact rfl
  · exact rfl
  · exact fun w => Try.call27 _ w
  · (focus ((repeat (first | exact TakeL.nil | apply TakeL.cons | exact Take.head | apply Take.tail)); done))
  · exact fun w1 S1 hS1 hs1 ho1 => worn_spec b (some mb) m4 3 0 w1 S1 hS1 k4
  rintro _ _ ⟨rfl, rfl⟩
  first | refine WL.app4 ?_ | refine WL.app3 ?_ | refine WL.app2 ?_ | refine WL.app1 ?_ | refine WL.app0 ?_ | skip
  rw [w4]
  repeat first
    | (apply WL.q; exact rfl; exact rfl; exact rfl; (first | (apply EvW.move; exact rfl) | (apply EvW.assign; exact rfl) | (apply EvW.nilPtr; exact rfl) | (apply EvW.fieldAddr0; exact rfl; exact FldC.eq) | (apply EvW.fieldAddr; exact rfl; exact FldC.eq) | (apply EvW.extract; exact rfl; exact rfl) | (apply EvW.cmpT; exact rfl; exact rfl; exact rfl; omega) | (apply EvW.cmpF; exact rfl; exact rfl; exact rfl; omega) | (apply EvW.cmp; exact rfl; exact rfl; exact rfl) | (apply EvW.pickT; exact rfl; exact rfl) | (apply EvW.pickF; exact rfl; exact rfl) | (apply EvW.notT; exact rfl) | (apply EvW.notF; exact rfl) | (apply EvW.notP; exact rfl) | (apply EvW.seqS; exact rfl; exact rfl) | (apply EvW.seq; exact rfl; exact rfl) | (apply EvW.build; exact PlC.eq; exact ZvC.eq; exact rfl; exact rfl; (focus ((repeat (first | exact Fills.nil | (apply Fills.cons; exact rfl; (first | assumption | exact rfl); exact rfl) | exact SetMany.nil | apply SetMany.cons | apply SetMany.succ)); done))) | (apply EvW.peqN; exact rfl; exact rfl; exact UndC.eq) | (apply EvW.fldRow; exact rfl; exact FldC.eq; assumption; omega) | (apply EvW.fldOwn; exact rfl; exact FldC.eq; (focus ((repeat (first | exact Take.head | apply Take.tail)); done)); omega) | (apply EvW.nilElemOwn; exact rfl; (focus ((repeat (first | exact Take.head | apply Take.tail)); done)); omega) | (apply EvW.nilElemRow; exact rfl; assumption; omega)))
    | refine WC.seq ?_ | refine WC.region ?_ | refine WL.nil ?_ | refine WE.next ?_ | refine WC.skip ?_ | refine WC.exit ?_ | refine WE.pass ?_ | refine WE.hit ?_ | refine WE.miss rfl ?_ | refine WE.out ?_ | refine WC.condT rfl ?_ | refine WC.condF rfl ?_ | refine WC.ret ?_ | refine WE.passRet ?_ | refine WE.outRet ?_ | refine WL.wanted rfl rfl rfl ?_ | refine WL.unwanted rfl rfl rfl rfl ?_ | refine WL.unwantedU rfl rfl rfl rfl ?_ | refine WL.unwanted0 rfl rfl rfl ?_
  refine WE.bare ?_
  refine WE.ret1 rfl rfl ?_
  exact ⟨rfl, rfl⟩
end Go.Proofs.Ytakffjjnogpolaa
