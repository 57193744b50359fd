/- The law of what is kept. -/
import Derived.Test.YtakffjjnogpolaaCellsI
namespace Go.Proofs.Ytakffjjnogpolaa
open Go.RowKit Go.BK

/-- The text stands on the page, but for what is bare of it. -/
def Kept (t : List UInt8) (a : Nat) (P : List UInt8) : Prop := P.length = 4096 ∧ ∀ k, k < t.length → t.getD k 0 = 255 ∨ P.getD (a + k) 0 = t.getD k 0
theorem kept_burn {t : List UInt8} {a : Nat} {m : Mem} {K : Nat} {p pos n : Int} {z : List UInt8} (hm : m.wf K) (h : Kept t a (m.page 5)) (hb : m.bad p pos z = 0) (hn : 0 ≤ n ∧ n ≤ z.length) : Kept t a ((m.burnt p pos z n).page 5) := by
  obtain ⟨h1, h2, h3⟩ := bad_zero hb
  obtain ⟨_, hp, hpos⟩ := place_zero h1
  obtain ⟨hp1, hp2⟩ := hm.page hp.1 hp.2
  rw [burnt_page hp1]
  by_cases h5 : p.toNat = (5 : Int).toNat
  rotate_left
  · rw [if_neg h5]; exact h
  have hp5 : m.page p = m.page 5 := by unfold Mem.page; rw [h5]
  rw [if_pos h5]
  rw [hp5] at h3 hp2 ⊢
  have l1 : ((m.page 5).take pos.toNat).length = pos.toNat := by rw [List.length_take]; omega
  have l2 : (z.take n.toNat).length = n.toNat := by rw [List.length_take]; omega
  refine ⟨by rw [List.length_append, List.length_append, l1, l2, List.length_drop]; omega, fun k hk => ?_⟩
  by_cases ht : t.getD k 0 = 255
  · exact .inl ht
  · have hP := (h.2 k hk).resolve_left ht
    refine .inr ?_
    rw [← hP]
    by_cases c1 : a + k < pos.toNat
    · rw [List.getD_eq_getElem?_getD, List.getElem?_append_left (by rw [List.length_append, l1]; omega), List.getElem?_append_left (by rw [l1]; exact c1), List.getElem?_take_of_lt c1, ← List.getD_eq_getElem?_getD]
    by_cases c2 : a + k < pos.toNat + n.toNat
    · exfalso
      apply ht
      rw [← hP]
      have : (((m.page 5).take (pos + z.length).toNat).drop pos.toNat).getD (a + k - pos.toNat) 0 = (bareB z.length).getD (a + k - pos.toNat) 0 := congrArg (fun l => l.getD (a + k - pos.toNat) 0) h3
      rw [List.getD_eq_getElem?_getD, List.getElem?_drop, List.getElem?_take_of_lt (by omega), show pos.toNat + (a + k - pos.toNat) = a + k by omega, ← List.getD_eq_getElem?_getD, getD_bare _ _ (by omega)] at this
      exact this
    · rw [List.getD_eq_getElem?_getD, List.getElem?_append_right (by rw [List.length_append, l1, l2]; omega), List.length_append, l1, l2, List.getElem?_drop, show (pos + n).toNat + (a + k - (pos.toNat + n.toNat)) = a + k by omega, ← List.getD_eq_getElem?_getD]
theorem kept_erase {t : List UInt8} {a : Nat} {m : Mem} {K : Nat} {p n : Int} (hm : m.wf K) (h : Kept t a (m.page 5)) (hp : 0 ≤ p ∧ p < 24) (h5 : p ≠ 5) : Kept t a ((m.erased p n).page 5) := by
  rw [erased_page (hm.page hp.1 hp.2).1, if_neg (by rw [show Int.toNat 5 = 5 from rfl]; omega)]; exact h
theorem kept_read {t : List UInt8} {a : Nat} {P : List UInt8} (h : Kept t a P) (ha : a + t.length ≤ 4096) : ∀ k, k < t.length → t.getD k 0 = 255 ∨ ((P.take (a + t.length)).drop a).getD k 0 = t.getD k 0 := fun k hk => by
  rcases h.2 k hk with h1 | h1
  · exact .inl h1
  · refine .inr ?_
    rw [← h1, List.getD_eq_getElem?_getD, List.getElem?_drop, List.getElem?_take_of_lt (by omega), ← List.getD_eq_getElem?_getD]
theorem kept_new {t : List UInt8} {a c : Nat} (h : a + t.length + c = 4096) : Kept t a (bareB a ++ t ++ bareB c) := by
  refine ⟨by rw [List.length_append, List.length_append, bareB_length, bareB_length]; exact h, fun k hk => .inr ?_⟩
  rw [List.getD_eq_getElem?_getD, List.getElem?_append_left (by rw [List.length_append, bareB_length]; omega), List.getElem?_append_right (by rw [bareB_length]; omega), bareB_length, Nat.add_sub_cancel_left, ← List.getD_eq_getElem?_getD]
set_option maxHeartbeats 2000000 in
theorem cellsKeep_law (l : List UInt8) (y : Int) (v : Value) (xs : List Int) (w : World) (S : BSet) (hS : (sepL []).sat S w) (hl : l.length ≤ 140737488355000) (hv : Sees w S (.row 1 v xs.length (xs.map i64))) (hn : xs.length ≤ 17592186044416) :
    Tri Try.prog 6 #[str l, i64 y, v] w S fun u A => u = .bool true := by
  refine Tri.enter (l := [str l, i64 y, v]) Try.func6 rfl Try.ntmps6 rfl [(0, str l), (1, i64 y), (2, v)] (subA rfl) hS ?_
  obtain ⟨t, ht⟩ : ∃ t, l.take (min (l.length : Int) 1000).toNat = t := ⟨_, rfl⟩
  have htl : t.length ≤ 1000 := by rw [← ht, List.length_take]; omega
  obtain ⟨a, ha, ha0⟩ : ∃ a : Nat, IntKind.u64.wrap y % 3000 = a ∧ a < 3000 := ⟨(IntKind.u64.wrap y % 3000).toNat, by omega, by omega⟩
  have k0 := new_wf
  have hb1 : Mem.new.bad 5 a t = 0 := bad_ok (place_ok rfl (by decide) (by omega)) (by omega) (by rw [new_page (by decide), show ((a : Int) + t.length).toNat = a + t.length by omega, bareB_take, bareB_drop]; congr 1; omega)
  obtain ⟨m1, hm1⟩ : ∃ m1, (Mem.new.burnt 5 a t (cutF none t.length).1).act none = m1 := ⟨_, rfl⟩
  have k1 : m1.wf 1 := by rw [← hm1]; exact burn_wf (ct := none) k0 hb1
  have p1 : m1.page 5 = bareB a ++ t ++ bareB (4096 - (a + t.length)) := by
    rw [← hm1]
    show (Mem.new.burnt 5 a t t.length).page 5 = _
    rw [burnt_page (by show 5 < 24; decide), if_pos rfl, new_page (by decide), show ((t.length : Nat) : Int).toNat = t.length from rfl, show ((a : Int) + t.length).toNat = a + t.length by omega]
    exact burn_bare a t (by omega)
  have o1 : m1.off = false := by rw [← hm1]; rfl
  have hK1 : Kept t a (m1.page 5) := by rw [p1]; exact kept_new (by omega)
  repeat first
    | (apply WL.q; exact rfl; exact rfl; exact rfl; (first | (apply EvW.assign; exact rfl)))
    | refine WC.seq ?_ | refine WC.region ?_ | refine WL.nil ?_ | refine WE.next ?_
  try refine WL.wanted rfl rfl rfl ?_
  apply WL.callA ([])
  · exact rfl
  · exact rfl
  · exact fun w => Try.call9 _ w
  · (focus ((repeat (first | exact TakeL.nil | apply TakeL.cons | exact Take.head | apply Take.tail)); done))
  · exact fun w1 S1 hS1 hs1 ho1 => lives07_spec w1 S1 hS1
  rintro _ _ ⟨rfl, rfl⟩
  first | refine WL.app4 ?_ | refine WL.app3 ?_ | refine WL.app2 ?_ | refine WL.app1 ?_ | refine WL.app0 ?_ | skip
  repeat first
    | (apply WL.q; exact rfl; exact rfl; exact rfl; (first | (apply EvW.notT; exact rfl)))
    | refine WC.seq ?_ | refine WC.region ?_ | refine WL.nil ?_ | refine WE.next ?_ | refine WC.skip ?_ | refine WC.condF rfl ?_
  try refine WL.wanted rfl rfl rfl ?_
  apply WL.callA ([])
  · exact rfl
  · exact rfl
  · exact fun w => Try.call10 _ w
  · (focus ((repeat (first | exact TakeL.nil | apply TakeL.cons | exact Take.head | apply Take.tail)); done))
  · exact fun w1 S1 hS1 hs1 ho1 => new_spec w1 S1 hS1
  rintro _ _ ⟨b, rfl, rfl⟩
  first | refine WL.app4 ?_ | refine WL.app3 ?_ | refine WL.app2 ?_ | refine WL.app1 ?_ | refine WL.app0 ?_ | skip
  refine WL.omapNil ?_
  repeat first
    | (apply WL.q; exact rfl; exact rfl; exact rfl; (first | (apply EvW.move; exact rfl) | (apply EvW.assign; exact rfl) | (apply EvW.lenS; exact rfl; exact UndC.eq) | (apply EvW.convN; exact rfl; exact UndC.eq; exact UndC.eq; (first | (refine i64_in ?_ ?_ <;> omega) | (constructor <;> simp only [IntKind.min, IntKind.max, IntKind.signed, IntKind.bits, ↓reduceIte, Bool.false_eq_true] <;> omega))) | (apply EvW.conv; exact rfl; exact UndC.eq; exact UndC.eq) | (apply EvW.sliceS_hi; exact rfl; exact UndC.eq; exact rfl; omega; omega) | (apply EvW.min2; exact rfl; exact rfl) | (apply EvW.remW; exact rfl; exact rfl; exact rfl; omega)))
    | refine WC.seq ?_ | refine WC.region ?_ | refine WL.nil ?_ | refine WE.next ?_
  rw [ht, ha]
  skip
  try refine WL.wanted rfl rfl rfl ?_
  (apply WL.buildSlice; exact rfl; exact UndC.eq; exact SzC.eq; exact ZvC.eq; exact rfl; exact rfl; exact rfl; ((focus ((repeat (first | exact Flat.nil | (apply Flat.one; (first | exact rfl | assumption)) | (apply Flat.cons; exact rfl; exact rfl))); done))); exact rfl; exact rfl; intro c1)
  try refine WL.wanted rfl rfl rfl ?_
  apply WL.callA ([.blk b (Value.map (none) :: i64 (Mem.new).ar :: i64 (Mem.new).ac :: Value.bool (Mem.new).off :: ((Mem.new).pages.map str ++ (Mem.new).worn.map i64)).toArray 41, .omap none []])
  · exact rfl
  · exact rfl
  · exact fun w => Try.call11 _ w
  · (focus ((repeat (first | exact TakeL.nil | apply TakeL.cons | exact Take.head | apply Take.tail)); done))
  · exact fun w1 S1 hS1 hs1 ho1 => burn_spec b none Mem.new 0 [] 5 a _ [t] t none w1 S1 hS1 ((ho1 _ _ .head).blkRow rfl (fun k u h => by simpa using h) (by simp)) (by simp) (by simp) hb1 k0 (by decide) (fun _ => rfl) rfl
  rintro _ _ ⟨rfl, rfl⟩
  first | refine WL.app4 ?_ | refine WL.app3 ?_ | refine WL.app2 ?_ | refine WL.app1 ?_ | refine WL.app0 ?_ | skip
  rw [hm1]
  dsimp only [cutF]
  repeat first
    | (apply WL.q; exact rfl; exact rfl; exact rfl; (first | (apply EvW.move; exact rfl) | (apply EvW.cmpF; exact rfl; exact rfl; exact rfl; omega) | (apply EvW.lenRow; exact rfl; exact UndC.eq; assumption)))
    | refine WC.seq ?_ | refine WC.region ?_ | refine WL.nil ?_ | refine WE.next ?_ | refine WC.block ?_ | refine WC.skip ?_ | refine WC.condF rfl ?_
  refine WC.loopK (σ := Nat × Nat × Mem) [0, 1, 32, 33] (fun s => [(7, ptr s.2.1 0), (34, i64 s.1)]) (fun s => [.blk s.2.1 (Value.map (none) :: i64 (s.2.2).ar :: i64 (s.2.2).ac :: Value.bool (s.2.2).off :: ((s.2.2).pages.map str ++ (s.2.2).worn.map i64)).toArray 41, .omap none []]) (fun s => s.1 ≤ xs.length ∧ s.1 ≤ 30 ∧ s.2.2.wf (s.1 + 1) ∧ s.2.2.off = false ∧ Kept t a (s.2.2.page 5)) (fun s => xs.length - s.1) (0, b, m1) (by (focus ((repeat (first | exact Pick.nil | (apply Pick.cons; exact rfl))); done))) (by (focus ((repeat (first | exact trivial | (refine ⟨rfl, ?_⟩))); done))) (fun _ h => h.keep (by (focus ((repeat (first | exact TakeL.nil | apply TakeL.cons | exact Take.head | apply Take.tail)); done)))) ⟨Nat.zero_le _, Nat.zero_le _, k1, o1, hK1⟩ (fun s hs => ?_)
  obtain ⟨i, q, m⟩ := s
  simp only [List.cons_append, List.nil_append] at hs ⊢
  obtain ⟨hi, hi30, hm, hoff, hK⟩ := hs
  by_cases hlt : (i : Int) < xs.length
  · by_cases h30 : (i : Int) ≥ 30
    · skip
      have hpe : m.place 5 0 = 0 := place_ok hoff (by decide) (by decide)
      obtain ⟨E, hE⟩ : ∃ E, (m.erased 5 (cutF none 4096).1).act none = E := ⟨_, rfl⟩
      have kE : E.wf (i + 2) := by rw [← hE]; exact erase_wf (ct := none) hm (by decide)
      have bE : E.bare 5 = 0 := by
        unfold Mem.bare
        rw [if_neg (by decide), ← hE]
        show ((bareL ((m.erased 5 4096).page 5) : Nat) : Int) = 0
        rw [erased_page (hm.page (p := 5) (by decide) (by decide)).1, if_pos rfl, List.drop_of_length_le (by rw [(hm.page (p := 5) (by decide) (by decide)).2]; decide), List.append_nil, bareL_bare]
        rfl
      repeat first
        | (apply WL.q; exact rfl; exact rfl; exact rfl; (first | (apply EvW.move; exact rfl) | (apply EvW.assign; exact rfl) | (apply EvW.cmpT; exact rfl; exact rfl; exact rfl; omega) | (apply EvW.idxRow; exact rfl; exact rfl; exact UndC.eq; exact SzC.eq; assumption; omega; omega) | (apply EvW.ldInt; exact rfl; exact ScalC.eq; assumption; omega)))
        | refine WC.seq ?_ | refine WC.region ?_ | refine WL.nil ?_ | refine WE.next ?_ | refine WC.block ?_ | refine WC.skip ?_ | refine WC.exit ?_ | refine WE.pass ?_ | refine WE.hit ?_ | refine WE.miss rfl ?_ | refine WC.condT rfl ?_
      try refine WL.wanted rfl rfl rfl ?_
      apply WL.callA ([.blk q (Value.map (none) :: i64 (m).ar :: i64 (m).ac :: Value.bool (m).off :: ((m).pages.map str ++ (m).worn.map i64)).toArray 41, .omap none []])
      · exact rfl
      · exact rfl
      · exact fun w => Try.call15 _ w
      · (focus ((repeat (first | exact TakeL.nil | apply TakeL.cons | exact Take.head | apply Take.tail)); done))
      · exact fun w1 S1 hS1 hs1 ho1 => erase_spec q none m (i + 1) [] 5 none w1 S1 hS1 hpe hm (by omega) (fun _ => rfl) rfl
      rintro _ _ ⟨rfl, rfl⟩
      first | refine WL.app4 ?_ | refine WL.app3 ?_ | refine WL.app2 ?_ | refine WL.app1 ?_ | refine WL.app0 ?_ | skip
      rw [hE]
      dsimp only [cutF]
      repeat first
        | (apply WL.q; exact rfl; exact rfl; exact rfl; (first | (apply EvW.move; exact rfl) | (apply EvW.cmpT; exact rfl; exact rfl; exact rfl; omega)))
        | refine WL.wanted rfl rfl rfl ?_
      try refine WL.wanted rfl rfl rfl ?_
      apply WL.callA ([.blk q (Value.map (none) :: i64 (E).ar :: i64 (E).ac :: Value.bool (E).off :: ((E).pages.map str ++ (E).worn.map i64)).toArray 41])
      · exact rfl
      · exact rfl
      · exact fun w => Try.call13 _ w
      · (focus ((repeat (first | exact TakeL.nil | apply TakeL.cons | exact Take.head | apply Take.tail)); done))
      · exact fun w1 S1 hS1 hs1 ho1 => bareOf_spec q none E (i + 2) 5 w1 S1 hS1 kE
      rintro _ _ ⟨rfl, rfl⟩
      first | refine WL.app4 ?_ | refine WL.app3 ?_ | refine WL.app2 ?_ | refine WL.app1 ?_ | refine WL.app0 ?_ | skip
      rw [bE]
      repeat first
        | (apply WL.q; exact rfl; exact rfl; exact rfl; (first | (apply EvW.assign; exact rfl) | (apply EvW.cmpT; exact rfl; exact rfl; exact rfl; omega) | (apply EvW.pickT; exact rfl; exact rfl)))
        | refine WL.nil ?_ | refine WE.next ?_ | refine WC.ret ?_ | refine WL.wanted rfl rfl rfl ?_
      refine WE.bare ?_
      refine WE.ret1 rfl rfl ?_
      rfl
    have km := arm_wf hm
    obtain ⟨x, hx⟩ : ∃ x, xs.getD ((i : Nat) : Int).toNat 0 = x := ⟨_, rfl⟩
    obtain ⟨pg, hpg, hpg0⟩ : ∃ s : Int, IntKind.u64.wrap x % 24 = s ∧ (0 ≤ s ∧ s < 24) := ⟨_, rfl, by omega, by omega⟩
    obtain ⟨pos, hpos⟩ : ∃ s : Int, IntKind.u64.wrap x % 4096 = s := ⟨_, rfl⟩
    repeat first
      | (apply WL.q; exact rfl; exact rfl; exact rfl; (first | (apply EvW.move; exact rfl) | (apply EvW.assign; exact rfl) | (apply EvW.nilPtr; exact rfl) | (apply EvW.fieldAddr0; exact rfl; exact FldC.eq) | (apply EvW.cmpT; exact rfl; exact rfl; exact rfl; omega) | (apply EvW.cmpF; exact rfl; exact rfl; exact rfl; omega) | (apply EvW.convN; exact rfl; exact UndC.eq; exact UndC.eq; (first | (refine i64_in ?_ ?_ <;> omega) | (constructor <;> simp only [IntKind.min, IntKind.max, IntKind.signed, IntKind.bits, ↓reduceIte, Bool.false_eq_true] <;> omega))) | (apply EvW.conv; exact rfl; exact UndC.eq; exact UndC.eq) | (apply EvW.build; exact PlC.eq; exact ZvC.eq; exact rfl; exact rfl; (focus ((repeat (first | exact Fills.nil | (apply Fills.cons; exact rfl; (first | assumption | exact rfl); exact rfl) | exact SetMany.nil | apply SetMany.cons | apply SetMany.succ)); done))) | (apply EvW.idxRow; exact rfl; exact rfl; exact UndC.eq; exact SzC.eq; assumption; omega; omega) | (apply EvW.ldInt; exact rfl; exact ScalC.eq; assumption; omega) | (apply EvW.remW; exact rfl; exact rfl; exact rfl; omega) | (apply EvW.rem; exact rfl; exact rfl; omega)))
      | refine WC.seq ?_ | refine WC.region ?_ | refine WL.nil ?_ | refine WE.next ?_ | refine WC.block ?_ | refine WC.skip ?_ | refine WC.condT rfl ?_ | refine WC.condF rfl ?_
    rw [hx, hpg]
    try refine WL.wanted rfl rfl rfl ?_
    (apply WL.buildSlice; exact rfl; exact UndC.eq; exact SzC.eq; exact ZvC.eq; exact rfl; exact rfl; exact rfl; ((focus ((repeat (first | exact Flat.nil | (apply Flat.one; (first | exact rfl | assumption)) | (apply Flat.cons; exact rfl; exact rfl))); done))); exact rfl; exact rfl; intro c2)
    try refine WL.wanted rfl rfl rfl ?_
    apply WL.callA ([.blk q (Value.map (none) :: i64 (m).ar :: i64 (m).ac :: Value.bool (m).off :: ((m).pages.map str ++ (m).worn.map i64)).toArray 41])
    · exact rfl
    · exact rfl
    · exact fun w => Try.call16 _ w
    · (focus ((repeat (first | exact TakeL.nil | apply TakeL.cons | exact Take.head | apply Take.tail)); done))
    · exact fun w1 S1 hS1 hs1 ho1 => arm_spec q none m.ar m.ac m.off (m.pages.map str ++ m.worn.map i64) 41 _ [⟨0, x.tmod 5000⟩] w1 S1 hS1 ((ho1 _ _ .head).blkRow rfl (fun k u h => by rw [Nat.zero_add]; exact h) (by simp)) (by simp)
    rintro _ _ ⟨mb, rfl, rfl⟩
    first | refine WL.app4 ?_ | refine WL.app3 ?_ | refine WL.app2 ?_ | refine WL.app1 ?_ | refine WL.app0 ?_ | skip
    by_cases h3 : x.tmod 3 = 0
    · by_cases h5 : pg = 5
      · repeat first
          | (apply WL.q; exact rfl; exact rfl; exact rfl; (first | (apply EvW.move; exact rfl) | (apply EvW.assign; exact rfl) | (apply EvW.cmpT; exact rfl; exact rfl; exact rfl; omega) | (apply EvW.cmpF; exact rfl; exact rfl; exact rfl; omega) | (apply EvW.convN; exact rfl; exact UndC.eq; exact UndC.eq; (first | (refine i64_in ?_ ?_ <;> omega) | (constructor <;> simp only [IntKind.min, IntKind.max, IntKind.signed, IntKind.bits, ↓reduceIte, Bool.false_eq_true] <;> omega))) | (apply EvW.conv; exact rfl; exact UndC.eq; exact UndC.eq) | (apply EvW.pickT; exact rfl; exact rfl) | (apply EvW.remW; exact rfl; exact rfl; exact rfl; omega) | (apply EvW.rem; exact rfl; exact rfl; omega)))
          | refine WC.seq ?_ | refine WC.region ?_ | refine WL.nil ?_ | refine WE.next ?_ | refine WC.block ?_ | refine WC.condF rfl ?_ | refine WL.wanted rfl rfl rfl ?_
        rw [hpos]
        by_cases hbad : Mem.bad { m with ar := 0 } pg pos [122, 122, 122, 122] = 0
        · obtain ⟨M2, hM2⟩ : ∃ M2, (Mem.burnt { m with ar := 0 } pg pos [122, 122, 122, 122] (cutF (some (x.tmod 5000)) 4).1).act (some (x.tmod 5000)) = M2 := ⟨_, rfl⟩
          have k2 : M2.wf (i + 2) := by rw [← hM2]; exact burn_wf (ct := some (x.tmod 5000)) km hbad
          have kp2 : Kept t a (M2.page 5) := by rw [← hM2]; exact kept_burn km hK hbad (cutF_bd (some (x.tmod 5000)) 4 (by decide))
          try refine WL.wanted rfl rfl rfl ?_
          (apply WL.buildSlice; exact rfl; exact UndC.eq; exact SzC.eq; exact ZvC.eq; exact rfl; exact rfl; exact rfl; ((focus ((repeat (first | exact Flat.nil | (apply Flat.one; (first | exact rfl | assumption)) | (apply Flat.cons; exact rfl; exact rfl))); done))); exact rfl; exact rfl; intro c3)
          try refine WL.wanted rfl rfl rfl ?_
          apply WL.callA ([.blk q (Value.map (some mb) :: i64 ({ m with ar := 0 }).ar :: i64 ({ m with ar := 0 }).ac :: Value.bool ({ m with ar := 0 }).off :: (({ m with ar := 0 }).pages.map str ++ ({ m with ar := 0 }).worn.map i64)).toArray 41, .omap (some mb) (armM [⟨0, x.tmod 5000⟩])])
          · exact rfl
          · exact rfl
          · exact fun w => Try.call11 _ w
          · (focus ((repeat (first | exact TakeL.nil | apply TakeL.cons | exact Take.head | apply Take.tail)); done))
          · exact fun w1 S1 hS1 hs1 ho1 => burn_spec q (some mb) { m with ar := 0 } (i + 1) (armM [⟨0, x.tmod 5000⟩]) pg pos _ [[122, 122, 122, 122]] [122, 122, 122, 122] (some (x.tmod 5000)) w1 S1 hS1 ((ho1 _ _ .head).blkRow rfl (fun k u h => by simpa using h) (by simp)) (by simp) rfl hbad km (by omega) (fun h => absurd h (by simp)) rfl
          rintro _ _ ⟨rfl, rfl⟩
          first | refine WL.app4 ?_ | refine WL.app3 ?_ | refine WL.app2 ?_ | refine WL.app1 ?_ | refine WL.app0 ?_ | skip
          rw [show (Mem.burnt { m with ar := 0 } pg pos [122, 122, 122, 122] (cutF (some (x.tmod 5000)) (([122, 122, 122, 122] : List UInt8).length : Int)).1).act (some (x.tmod 5000)) = M2 from hM2]
          have k3 := again_wf k2
          have kp3 : Kept t a (M2.again.page 5) := kp2
          have hr := kept_read kp3 (by omega)
          have hrd : M2.again.read 5 a t.length = (((M2.again.page 5).take (a + t.length)).drop a, 0) := by
            rw [read_ok (place_ok rfl (by decide) (by omega)) (by omega) (by omega), show ((a : Int) + t.length).toNat = a + t.length by omega]; rfl
          have hsl : (((M2.again.page 5).take (a + t.length)).drop a).length = t.length := by rw [List.length_drop, List.length_take, kp3.1]; omega
          repeat first
            | (apply WL.q; exact rfl; exact rfl; exact rfl; (first | (apply EvW.move; exact rfl)))
            | refine WC.seq ?_ | refine WC.region ?_ | refine WL.nil ?_ | refine WE.next ?_ | refine WE.out ?_
          try refine WL.wanted rfl rfl rfl ?_
          apply WL.callA ([.blk q (Value.map (some mb) :: i64 (M2).ar :: i64 (M2).ac :: Value.bool (M2).off :: ((M2).pages.map str ++ (M2).worn.map i64)).toArray 41])
          · exact rfl
          · exact rfl
          · exact fun w => Try.call14 _ w
          · (focus ((repeat (first | exact TakeL.nil | apply TakeL.cons | exact Take.head | apply Take.tail)); done))
          · exact fun w1 S1 hS1 hs1 ho1 => again_spec q (some mb) M2 (i + 2) w1 S1 hS1 k2
          rintro _ _ ⟨q', rfl, rfl⟩
          first | refine WL.app4 ?_ | refine WL.app3 ?_ | refine WL.app2 ?_ | refine WL.app1 ?_ | refine WL.app0 ?_ | skip
          refine WL.omapNil ?_
          repeat first
            | (apply WL.q; exact rfl; exact rfl; exact rfl; (first | (apply EvW.move; exact rfl) | (apply EvW.assign; exact rfl) | (apply EvW.nilPtr; exact rfl) | (apply EvW.fieldAddr0; exact rfl; exact FldC.eq) | (apply EvW.peqN; exact rfl; exact rfl; exact UndC.eq)))
            | refine WC.seq ?_ | refine WC.region ?_ | refine WL.nil ?_ | refine WE.next ?_ | refine WL.wanted rfl rfl rfl ?_
          try refine WL.wanted rfl rfl rfl ?_
          apply WL.callA ([.blk q' (Value.map (none) :: i64 (M2.again).ar :: i64 (M2.again).ac :: Value.bool (M2.again).off :: ((M2.again).pages.map str ++ (M2.again).worn.map i64)).toArray 41])
          · exact rfl
          · exact rfl
          · exact fun w => Try.call17 _ w
          · (focus ((repeat (first | exact TakeL.nil | apply TakeL.cons | exact Take.head | apply Take.tail)); done))
          · exact fun w1 S1 hS1 hs1 ho1 => down_spec q' none M2.again false w1 S1 hS1 rfl
          rintro _ _ ⟨rfl, rfl⟩
          first | refine WL.app4 ?_ | refine WL.app3 ?_ | refine WL.app2 ?_ | refine WL.app1 ?_ | refine WL.app0 ?_ | skip
          repeat first
            | (apply WL.q; exact rfl; exact rfl; exact rfl; (first | (apply EvW.move; exact rfl) | (apply EvW.nilPtr; exact rfl) | (apply EvW.fieldAddr0; exact rfl; exact FldC.eq) | (apply EvW.pickF; exact rfl; exact rfl)))
            | refine WL.wanted rfl rfl rfl ?_
          try refine WL.wanted rfl rfl rfl ?_
          apply WL.callA ([.blk q' (Value.map (none) :: i64 (M2.again).ar :: i64 (M2.again).ac :: Value.bool (M2.again).off :: ((M2.again).pages.map str ++ (M2.again).worn.map i64)).toArray 41])
          · exact rfl
          · exact rfl
          · exact fun w => Try.call26 _ w
          · (focus ((repeat (first | exact TakeL.nil | apply TakeL.cons | exact Take.head | apply Take.tail)); done))
          · exact fun w1 S1 hS1 hs1 ho1 => acts_spec q' none M2.again w1 S1 hS1
          rintro _ _ ⟨rfl, rfl⟩
          first | refine WL.app4 ?_ | refine WL.app3 ?_ | refine WL.app2 ?_ | refine WL.app1 ?_ | refine WL.app0 ?_ | skip
          rw [show i64 M2.again.ac = i64 0 from rfl]
          repeat first
            | (apply WL.q; exact rfl; exact rfl; exact rfl; (first | (apply EvW.move; exact rfl) | (apply EvW.lenS; exact rfl; exact UndC.eq) | (apply EvW.cmpF; exact rfl; exact rfl; exact rfl; omega) | (apply EvW.pickF; exact rfl; exact rfl)))
            | refine WC.seq ?_ | refine WC.region ?_ | refine WL.nil ?_ | refine WE.next ?_ | refine WC.skip ?_ | refine WC.condF rfl ?_ | refine WL.wanted rfl rfl rfl ?_
          try refine WL.wanted rfl rfl rfl ?_
          apply WL.callA ([.blk q' (Value.map (none) :: i64 (M2.again).ar :: i64 (M2.again).ac :: Value.bool (M2.again).off :: ((M2.again).pages.map str ++ (M2.again).worn.map i64)).toArray 41])
          · exact rfl
          · exact rfl
          · exact fun w => Try.call12 _ w
          · (focus ((repeat (first | exact TakeL.nil | apply TakeL.cons | exact Take.head | apply Take.tail)); done))
          · exact fun w1 S1 hS1 hs1 ho1 => read_spec q' none M2.again (i + 2) 5 a t.length w1 S1 hS1 k3
          rintro _ _ ⟨rfl, rfl⟩
          first | refine WL.app4 ?_ | refine WL.app3 ?_ | refine WL.app2 ?_ | refine WL.app1 ?_ | refine WL.app0 ?_ | skip
          rw [hrd]
          dsimp only
          generalize ((M2.again.page 5).take (a + t.length)).drop a = s at hr hsl
          repeat first
            | (apply WL.q; exact rfl; exact rfl; exact rfl; (first | (apply EvW.move; exact rfl) | (apply EvW.assign; exact rfl) | (apply EvW.extract; exact rfl; exact rfl) | (apply EvW.lenS; exact rfl; exact UndC.eq) | (apply EvW.cmpF; exact rfl; exact rfl; exact rfl; omega) | (apply EvW.pickF; exact rfl; exact rfl)))
            | refine WC.seq ?_ | refine WC.region ?_ | refine WL.nil ?_ | refine WE.next ?_ | refine WC.block ?_ | refine WC.skip ?_ | refine WC.condF rfl ?_ | refine WL.wanted rfl rfl rfl ?_
          refine WC.loopK (σ := Nat) [0, 1, 7, 11, 32, 33, 34] (fun s => [(13, i64 s)]) (fun s => [.blk q' (Value.map (none) :: i64 (M2.again).ar :: i64 (M2.again).ac :: Value.bool (M2.again).off :: ((M2.again).pages.map str ++ (M2.again).worn.map i64)).toArray 41, .omap none []]) (fun s => s ≤ t.length) (fun s => t.length - s) 0 (by (focus ((repeat (first | exact Pick.nil | (apply Pick.cons; exact rfl))); done))) (by (focus ((repeat (first | exact trivial | (refine ⟨rfl, ?_⟩))); done))) (fun _ h => h.keep (by (focus ((repeat (first | exact TakeL.nil | apply TakeL.cons | exact Take.head | apply Take.tail)); done)))) (Nat.zero_le _) (fun s hs => ?_)
          obtain ⟨k, rfl⟩ : ∃ q, q = s := ⟨s, rfl⟩
          simp only [List.cons_append, List.nil_append] at hs ⊢
          by_cases hk : (k : Int) < (t.length : Nat)
          · have hkk := hr k (by omega)
            by_cases hst : ((s.getD ((k : Nat) : Int).toNat 0).toNat : Int) = (t.getD ((k : Nat) : Int).toNat 0).toNat
            · repeat first
                | (apply WL.q; exact rfl; exact rfl; exact rfl; (first | (apply EvW.move; exact rfl) | (apply EvW.lenS; exact rfl; exact UndC.eq) | (apply EvW.cmpT; exact rfl; exact rfl; exact rfl; omega)))
                | refine WC.seq ?_ | refine WC.region ?_ | refine WL.nil ?_ | refine WE.next ?_ | refine WC.block ?_ | refine WC.skip ?_ | refine WC.condT rfl ?_
              repeat refine WC.seq ?_
              refine WC.keep (xs := [.blk q' (Value.map (none) :: i64 (M2.again).ar :: i64 (M2.again).ac :: Value.bool (M2.again).off :: ((M2.again).pages.map str ++ (M2.again).worn.map i64)).toArray 41, .omap none []]) (by (focus ((repeat (first | exact TakeL.nil | apply TakeL.cons | exact Take.head | apply Take.tail)); done))) ?_
              apply WC.par _ (fun c : Ch => [.blk q' (Value.map (none) :: i64 (M2.again).ar :: i64 (M2.again).ac :: Value.bool (M2.again).off :: ((M2.again).pages.map str ++ (M2.again).worn.map i64)).toArray 41, .omap none []]) [none, none] [none, none] [] Try.mixed
              · (focus ((repeat (first | exact Restr.nil | (apply Restr.keep; exact rfl; exact rfl) | (apply Restr.drop; exact rfl))); done))
              · intro c; exact (by (focus ((repeat (first | exact SelT.nil | apply SelT.yes | apply SelT.no)); done)))
              · exact rfl
              · decide +kernel
              · decide +kernel
              · intro c
                (apply Par.quiet _ [true, true]; exact rfl; decide +kernel; exact rfl; intro R; refine ⟨_, (by (focus ((repeat (first | exact SelT.nil | apply SelT.yes | apply SelT.no)); done))), ?_⟩;
                     (first | (apply EvW.move; exact rfl)))
                (apply Par.quiet _ [true, true]; exact rfl; decide +kernel; exact rfl; intro R; refine ⟨_, (by (focus ((repeat (first | exact SelT.nil | apply SelT.yes | apply SelT.no)); done))), ?_⟩;
                     (first | (apply EvW.move; exact rfl)))
                (apply Par.quiet _ [true, true]; exact rfl; decide +kernel; exact rfl; intro R; refine ⟨_, (by (focus ((repeat (first | exact SelT.nil | apply SelT.yes | apply SelT.no)); done))), ?_⟩;
                     (first | (apply EvW.index; exact rfl; exact rfl; exact UndC.eq; omega; omega)))
                (apply Par.quiet _ [true, true]; exact rfl; decide +kernel; exact rfl; intro R; refine ⟨_, (by (focus ((repeat (first | exact SelT.nil | apply SelT.yes | apply SelT.no)); done))), ?_⟩;
                     (first | (apply EvW.move; exact rfl)))
                (apply Par.quiet _ [true, true]; exact rfl; decide +kernel; exact rfl; intro R; refine ⟨_, (by (focus ((repeat (first | exact SelT.nil | apply SelT.yes | apply SelT.no)); done))), ?_⟩;
                     (first | (apply EvW.move; exact rfl)))
                (apply Par.quiet _ [true, true]; exact rfl; decide +kernel; exact rfl; intro R; refine ⟨_, (by (focus ((repeat (first | exact SelT.nil | apply SelT.yes | apply SelT.no)); done))), ?_⟩;
                     (first | (apply EvW.index; exact rfl; exact rfl; exact UndC.eq; omega; omega)))
                (apply Par.quiet _ [true, true]; exact rfl; decide +kernel; exact rfl; intro R; refine ⟨_, (by (focus ((repeat (first | exact SelT.nil | apply SelT.yes | apply SelT.no)); done))), ?_⟩;
                     (first | (apply EvW.cmpF; exact rfl; exact rfl; exact rfl; omega)))
                (apply Par.quiet _ [true, true]; exact rfl; decide +kernel; exact rfl; intro R; refine ⟨_, (by (focus ((repeat (first | exact SelT.nil | apply SelT.yes | apply SelT.no)); done))), ?_⟩;
                     (first | (apply EvW.move; exact rfl)))
                first
                  | (apply Par.skip; exact rfl; decide +kernel; exact rfl)
                  | (apply Par.quiet _ [true, true]; exact rfl; decide +kernel; exact rfl; intro R; refine ⟨_, (by (focus ((repeat (first | exact SelT.nil | apply SelT.yes | apply SelT.no)); done))), ?_⟩;
                     fail)
                first
                  | (apply Par.skip; exact rfl; decide +kernel; exact rfl)
                  | (apply Par.quiet _ [true, true]; exact rfl; decide +kernel; exact rfl; intro R; refine ⟨_, (by (focus ((repeat (first | exact SelT.nil | apply SelT.yes | apply SelT.no)); done))), ?_⟩;
                     fail)
                first
                  | (apply Par.skip; exact rfl; decide +kernel; exact rfl)
                  | (apply Par.quiet _ [true, true]; exact rfl; decide +kernel; exact rfl; intro R; refine ⟨_, (by (focus ((repeat (first | exact SelT.nil | apply SelT.yes | apply SelT.no)); done))), ?_⟩;
                     fail)
                first
                  | (apply Par.skip; exact rfl; decide +kernel; exact rfl)
                  | (apply Par.quiet _ [true, true]; exact rfl; decide +kernel; exact rfl; intro R; refine ⟨_, (by (focus ((repeat (first | exact SelT.nil | apply SelT.yes | apply SelT.no)); done))), ?_⟩;
                     fail)
                (apply Par.quiet _ [true, true]; exact rfl; decide +kernel; exact rfl; intro R; refine ⟨_, (by (focus ((repeat (first | exact SelT.nil | apply SelT.yes | apply SelT.no)); done))), ?_⟩;
                     (first | (apply EvW.pickF; exact rfl; exact rfl)))
                exact Par.nil
              · repeat (first | exact AllN.nil | (apply AllN.cons; (intro c x; (repeat (first | exact IndA.nil | (apply IndA.skip; decide +kernel) | apply IndA.same))))) 
              · repeat (first | exact AllN.nil | (apply AllN.cons; (intro c x; (repeat (first | exact IndT.nil | (apply IndT.skip; decide +kernel) | apply IndT.same))))) 
              · exact fun _ => rfl
              intro c
              refine ⟨_, (by (focus ((repeat (first | exact SelT.nil | apply SelT.yes | apply SelT.no)); done))), ?_⟩
              apply WE.writ
              · (focus ((repeat (first | exact Writ.nil | apply Writ.some | apply Writ.none)); done))
              repeat first
                | (apply WL.q; exact rfl; exact rfl; exact rfl; (first | (apply EvW.move; exact rfl) | (apply EvW.assign; exact rfl) | (apply EvW.arN; exact rfl; exact rfl; exact rfl; (first | (refine i64_in ?_ ?_ <;> omega) | (constructor <;> simp only [IntKind.min, IntKind.max, IntKind.signed, IntKind.bits, ↓reduceIte, Bool.false_eq_true] <;> omega)))))
                | refine WC.region ?_ | refine WL.nil ?_ | refine WE.next ?_ | refine WC.skip ?_ | refine WE.out ?_ | refine WC.condF rfl ?_
              exact WE.again (s := k) ((k + 1)) (by omega) (by (focus ((repeat (first | exact trivial | (refine ⟨rfl, ?_⟩))); done))) (fun _ h => (by (try simp only []); exact h.keep (by (focus ((repeat (first | exact TakeL.nil | apply TakeL.cons | exact Take.head | apply Take.tail)); done))))) (by (try simp only []); omega)
            · have h255 : ((t.getD ((k : Nat) : Int).toNat 0).toNat : Int) = 255 := by
                rcases hkk with h | h
                · show ((t.getD k 0).toNat : Int) = 255
                  rw [h]; rfl
                · exact absurd (by show ((s.getD k 0).toNat : Int) = (t.getD k 0).toNat; rw [h]) hst
              repeat first
                | (apply WL.q; exact rfl; exact rfl; exact rfl; (first | (apply EvW.move; exact rfl) | (apply EvW.lenS; exact rfl; exact UndC.eq) | (apply EvW.cmpT; exact rfl; exact rfl; exact rfl; omega)))
                | refine WC.seq ?_ | refine WC.region ?_ | refine WL.nil ?_ | refine WE.next ?_ | refine WC.block ?_ | refine WC.skip ?_ | refine WC.condT rfl ?_
              repeat refine WC.seq ?_
              refine WC.keep (xs := [.blk q' (Value.map (none) :: i64 (M2.again).ar :: i64 (M2.again).ac :: Value.bool (M2.again).off :: ((M2.again).pages.map str ++ (M2.again).worn.map i64)).toArray 41, .omap none []]) (by (focus ((repeat (first | exact TakeL.nil | apply TakeL.cons | exact Take.head | apply Take.tail)); done))) ?_
              apply WC.par _ (fun c : Ch => [.blk q' (Value.map (none) :: i64 (M2.again).ar :: i64 (M2.again).ac :: Value.bool (M2.again).off :: ((M2.again).pages.map str ++ (M2.again).worn.map i64)).toArray 41, .omap none []]) [none, none] [none, none] [] Try.mixed
              · (focus ((repeat (first | exact Restr.nil | (apply Restr.keep; exact rfl; exact rfl) | (apply Restr.drop; exact rfl))); done))
              · intro c; exact (by (focus ((repeat (first | exact SelT.nil | apply SelT.yes | apply SelT.no)); done)))
              · exact rfl
              · decide +kernel
              · decide +kernel
              · intro c
                (apply Par.quiet _ [true, true]; exact rfl; decide +kernel; exact rfl; intro R; refine ⟨_, (by (focus ((repeat (first | exact SelT.nil | apply SelT.yes | apply SelT.no)); done))), ?_⟩;
                     (first | (apply EvW.move; exact rfl)))
                (apply Par.quiet _ [true, true]; exact rfl; decide +kernel; exact rfl; intro R; refine ⟨_, (by (focus ((repeat (first | exact SelT.nil | apply SelT.yes | apply SelT.no)); done))), ?_⟩;
                     (first | (apply EvW.move; exact rfl)))
                (apply Par.quiet _ [true, true]; exact rfl; decide +kernel; exact rfl; intro R; refine ⟨_, (by (focus ((repeat (first | exact SelT.nil | apply SelT.yes | apply SelT.no)); done))), ?_⟩;
                     (first | (apply EvW.index; exact rfl; exact rfl; exact UndC.eq; omega; omega)))
                (apply Par.quiet _ [true, true]; exact rfl; decide +kernel; exact rfl; intro R; refine ⟨_, (by (focus ((repeat (first | exact SelT.nil | apply SelT.yes | apply SelT.no)); done))), ?_⟩;
                     (first | (apply EvW.move; exact rfl)))
                (apply Par.quiet _ [true, true]; exact rfl; decide +kernel; exact rfl; intro R; refine ⟨_, (by (focus ((repeat (first | exact SelT.nil | apply SelT.yes | apply SelT.no)); done))), ?_⟩;
                     (first | (apply EvW.move; exact rfl)))
                (apply Par.quiet _ [true, true]; exact rfl; decide +kernel; exact rfl; intro R; refine ⟨_, (by (focus ((repeat (first | exact SelT.nil | apply SelT.yes | apply SelT.no)); done))), ?_⟩;
                     (first | (apply EvW.index; exact rfl; exact rfl; exact UndC.eq; omega; omega)))
                (apply Par.quiet _ [true, true]; exact rfl; decide +kernel; exact rfl; intro R; refine ⟨_, (by (focus ((repeat (first | exact SelT.nil | apply SelT.yes | apply SelT.no)); done))), ?_⟩;
                     (first | (apply EvW.cmpT; exact rfl; exact rfl; exact rfl; omega)))
                (apply Par.quiet _ [true, true]; exact rfl; decide +kernel; exact rfl; intro R; refine ⟨_, (by (focus ((repeat (first | exact SelT.nil | apply SelT.yes | apply SelT.no)); done))), ?_⟩;
                     (first | (apply EvW.move; exact rfl)))
                first
                  | (apply Par.skip; exact rfl; decide +kernel; exact rfl)
                  | (apply Par.quiet _ [true, true]; exact rfl; decide +kernel; exact rfl; intro R; refine ⟨_, (by (focus ((repeat (first | exact SelT.nil | apply SelT.yes | apply SelT.no)); done))), ?_⟩;
                     (first | (apply EvW.move; exact rfl)))
                first
                  | (apply Par.skip; exact rfl; decide +kernel; exact rfl)
                  | (apply Par.quiet _ [true, true]; exact rfl; decide +kernel; exact rfl; intro R; refine ⟨_, (by (focus ((repeat (first | exact SelT.nil | apply SelT.yes | apply SelT.no)); done))), ?_⟩;
                     (first | (apply EvW.move; exact rfl)))
                first
                  | (apply Par.skip; exact rfl; decide +kernel; exact rfl)
                  | (apply Par.quiet _ [true, true]; exact rfl; decide +kernel; exact rfl; intro R; refine ⟨_, (by (focus ((repeat (first | exact SelT.nil | apply SelT.yes | apply SelT.no)); done))), ?_⟩;
                     (first | (apply EvW.index; exact rfl; exact rfl; exact UndC.eq; omega; omega)))
                first
                  | (apply Par.skip; exact rfl; decide +kernel; exact rfl)
                  | (apply Par.quiet _ [true, true]; exact rfl; decide +kernel; exact rfl; intro R; refine ⟨_, (by (focus ((repeat (first | exact SelT.nil | apply SelT.yes | apply SelT.no)); done))), ?_⟩;
                     (first | (apply EvW.cmpF; exact rfl; exact rfl; exact rfl; omega)))
                (apply Par.quiet _ [true, true]; exact rfl; decide +kernel; exact rfl; intro R; refine ⟨_, (by (focus ((repeat (first | exact SelT.nil | apply SelT.yes | apply SelT.no)); done))), ?_⟩;
                     (first | (apply EvW.pickT; exact rfl; exact rfl)))
                exact Par.nil
              · repeat (first | exact AllN.nil | (apply AllN.cons; (intro c x; (repeat (first | exact IndA.nil | (apply IndA.skip; decide +kernel) | apply IndA.same))))) 
              · repeat (first | exact AllN.nil | (apply AllN.cons; (intro c x; (repeat (first | exact IndT.nil | (apply IndT.skip; decide +kernel) | apply IndT.same))))) 
              · exact fun _ => rfl
              intro c
              refine ⟨_, (by (focus ((repeat (first | exact SelT.nil | apply SelT.yes | apply SelT.no)); done))), ?_⟩
              apply WE.writ
              · (focus ((repeat (first | exact Writ.nil | apply Writ.some | apply Writ.none)); done))
              repeat first
                | (apply WL.q; exact rfl; exact rfl; exact rfl; (first | (apply EvW.move; exact rfl) | (apply EvW.assign; exact rfl) | (apply EvW.arN; exact rfl; exact rfl; exact rfl; (first | (refine i64_in ?_ ?_ <;> omega) | (constructor <;> simp only [IntKind.min, IntKind.max, IntKind.signed, IntKind.bits, ↓reduceIte, Bool.false_eq_true] <;> omega)))))
                | refine WC.region ?_ | refine WL.nil ?_ | refine WE.next ?_ | refine WC.skip ?_ | refine WE.out ?_ | refine WC.condF rfl ?_
              exact WE.again (s := k) ((k + 1)) (by omega) (by (focus ((repeat (first | exact trivial | (refine ⟨rfl, ?_⟩))); done))) (fun _ h => (by (try simp only []); exact h.keep (by (focus ((repeat (first | exact TakeL.nil | apply TakeL.cons | exact Take.head | apply Take.tail)); done))))) (by (try simp only []); omega)
          · repeat first
              | (apply WL.q; exact rfl; exact rfl; exact rfl; (first | (apply EvW.move; exact rfl) | (apply EvW.lenS; exact rfl; exact UndC.eq) | (apply EvW.cmpF; exact rfl; exact rfl; exact rfl; omega) | (apply EvW.arN; exact rfl; exact rfl; exact rfl; (first | (refine i64_in ?_ ?_ <;> omega) | (constructor <;> simp only [IntKind.min, IntKind.max, IntKind.signed, IntKind.bits, ↓reduceIte, Bool.false_eq_true] <;> omega)))))
              | refine WC.seq ?_ | refine WC.region ?_ | refine WL.nil ?_ | refine WE.next ?_ | refine WC.exit ?_ | refine WE.pass ?_ | refine WE.hit ?_ | refine WE.out ?_ | refine WC.condF rfl ?_
            exact WE.again (s := (i, q, m)) ((i + 1, q', M2.again)) ⟨by simp only []; omega, by simp only []; omega, k3, rfl, kp3⟩ (by (focus ((repeat (first | exact trivial | (refine ⟨rfl, ?_⟩))); done))) (fun _ h => (by (try simp only []); exact h.keep (by (focus ((repeat (first | exact TakeL.nil | apply TakeL.cons | exact Take.head | apply Take.tail)); done))))) (by (try simp only []); omega)
        · obtain ⟨M2, hM2⟩ : ∃ M2 : Mem, { m with ar := 0 } = M2 := ⟨_, rfl⟩
          have k2 : M2.wf (i + 2) := by rw [← hM2]; exact km.le (by omega)
          have kp2 : Kept t a (M2.page 5) := by rw [← hM2]; exact hK
          try refine WL.wanted rfl rfl rfl ?_
          (apply WL.buildSlice; exact rfl; exact UndC.eq; exact SzC.eq; exact ZvC.eq; exact rfl; exact rfl; exact rfl; ((focus ((repeat (first | exact Flat.nil | (apply Flat.one; (first | exact rfl | assumption)) | (apply Flat.cons; exact rfl; exact rfl))); done))); exact rfl; exact rfl; intro c3)
          try refine WL.wanted rfl rfl rfl ?_
          apply WL.callA ([.blk q (Value.map (some mb) :: i64 ({ m with ar := 0 }).ar :: i64 ({ m with ar := 0 }).ac :: Value.bool ({ m with ar := 0 }).off :: (({ m with ar := 0 }).pages.map str ++ ({ m with ar := 0 }).worn.map i64)).toArray 41])
          · exact rfl
          · exact rfl
          · exact fun w => Try.call11 _ w
          · (focus ((repeat (first | exact TakeL.nil | apply TakeL.cons | exact Take.head | apply Take.tail)); done))
          · exact fun w1 S1 hS1 hs1 ho1 => burn_bad q (some mb) { m with ar := 0 } (i + 1) pg pos _ [[122, 122, 122, 122]] [122, 122, 122, 122] w1 S1 hS1 ((ho1 _ _ .head).blkRow rfl (fun k u h => by simpa using h) (by simp)) (by simp) rfl (by decide) km hbad
          rintro _ _ ⟨rfl, rfl⟩
          first | refine WL.app4 ?_ | refine WL.app3 ?_ | refine WL.app2 ?_ | refine WL.app1 ?_ | refine WL.app0 ?_ | skip
          rw [hM2]
          have k3 := again_wf k2
          have kp3 : Kept t a (M2.again.page 5) := kp2
          have hr := kept_read kp3 (by omega)
          have hrd : M2.again.read 5 a t.length = (((M2.again.page 5).take (a + t.length)).drop a, 0) := by
            rw [read_ok (place_ok rfl (by decide) (by omega)) (by omega) (by omega), show ((a : Int) + t.length).toNat = a + t.length by omega]; rfl
          have hsl : (((M2.again.page 5).take (a + t.length)).drop a).length = t.length := by rw [List.length_drop, List.length_take, kp3.1]; omega
          repeat first
            | (apply WL.q; exact rfl; exact rfl; exact rfl; (first | (apply EvW.move; exact rfl)))
            | refine WC.seq ?_ | refine WC.region ?_ | refine WL.nil ?_ | refine WE.next ?_ | refine WE.out ?_
          try refine WL.wanted rfl rfl rfl ?_
          apply WL.callA ([.blk q (Value.map (some mb) :: i64 (M2).ar :: i64 (M2).ac :: Value.bool (M2).off :: ((M2).pages.map str ++ (M2).worn.map i64)).toArray 41])
          · exact rfl
          · exact rfl
          · exact fun w => Try.call14 _ w
          · (focus ((repeat (first | exact TakeL.nil | apply TakeL.cons | exact Take.head | apply Take.tail)); done))
          · exact fun w1 S1 hS1 hs1 ho1 => again_spec q (some mb) M2 (i + 2) w1 S1 hS1 k2
          rintro _ _ ⟨q', rfl, rfl⟩
          first | refine WL.app4 ?_ | refine WL.app3 ?_ | refine WL.app2 ?_ | refine WL.app1 ?_ | refine WL.app0 ?_ | skip
          refine WL.omapNil ?_
          repeat first
            | (apply WL.q; exact rfl; exact rfl; exact rfl; (first | (apply EvW.move; exact rfl) | (apply EvW.assign; exact rfl) | (apply EvW.nilPtr; exact rfl) | (apply EvW.fieldAddr0; exact rfl; exact FldC.eq) | (apply EvW.peqN; exact rfl; exact rfl; exact UndC.eq)))
            | refine WC.seq ?_ | refine WC.region ?_ | refine WL.nil ?_ | refine WE.next ?_ | refine WL.wanted rfl rfl rfl ?_
          try refine WL.wanted rfl rfl rfl ?_
          apply WL.callA ([.blk q' (Value.map (none) :: i64 (M2.again).ar :: i64 (M2.again).ac :: Value.bool (M2.again).off :: ((M2.again).pages.map str ++ (M2.again).worn.map i64)).toArray 41])
          · exact rfl
          · exact rfl
          · exact fun w => Try.call17 _ w
          · (focus ((repeat (first | exact TakeL.nil | apply TakeL.cons | exact Take.head | apply Take.tail)); done))
          · exact fun w1 S1 hS1 hs1 ho1 => down_spec q' none M2.again false w1 S1 hS1 rfl
          rintro _ _ ⟨rfl, rfl⟩
          first | refine WL.app4 ?_ | refine WL.app3 ?_ | refine WL.app2 ?_ | refine WL.app1 ?_ | refine WL.app0 ?_ | skip
          repeat first
            | (apply WL.q; exact rfl; exact rfl; exact rfl; (first | (apply EvW.move; exact rfl) | (apply EvW.nilPtr; exact rfl) | (apply EvW.fieldAddr0; exact rfl; exact FldC.eq) | (apply EvW.pickF; exact rfl; exact rfl)))
            | refine WL.wanted rfl rfl rfl ?_
          try refine WL.wanted rfl rfl rfl ?_
          apply WL.callA ([.blk q' (Value.map (none) :: i64 (M2.again).ar :: i64 (M2.again).ac :: Value.bool (M2.again).off :: ((M2.again).pages.map str ++ (M2.again).worn.map i64)).toArray 41])
          · exact rfl
          · exact rfl
          · exact fun w => Try.call26 _ w
          · (focus ((repeat (first | exact TakeL.nil | apply TakeL.cons | exact Take.head | apply Take.tail)); done))
          · exact fun w1 S1 hS1 hs1 ho1 => acts_spec q' none M2.again w1 S1 hS1
          rintro _ _ ⟨rfl, rfl⟩
          first | refine WL.app4 ?_ | refine WL.app3 ?_ | refine WL.app2 ?_ | refine WL.app1 ?_ | refine WL.app0 ?_ | skip
          rw [show i64 M2.again.ac = i64 0 from rfl]
          repeat first
            | (apply WL.q; exact rfl; exact rfl; exact rfl; (first | (apply EvW.move; exact rfl) | (apply EvW.lenS; exact rfl; exact UndC.eq) | (apply EvW.cmpF; exact rfl; exact rfl; exact rfl; omega) | (apply EvW.pickF; exact rfl; exact rfl)))
            | refine WC.seq ?_ | refine WC.region ?_ | refine WL.nil ?_ | refine WE.next ?_ | refine WC.skip ?_ | refine WC.condF rfl ?_ | refine WL.wanted rfl rfl rfl ?_
          try refine WL.wanted rfl rfl rfl ?_
          apply WL.callA ([.blk q' (Value.map (none) :: i64 (M2.again).ar :: i64 (M2.again).ac :: Value.bool (M2.again).off :: ((M2.again).pages.map str ++ (M2.again).worn.map i64)).toArray 41])
          · exact rfl
          · exact rfl
          · exact fun w => Try.call12 _ w
          · (focus ((repeat (first | exact TakeL.nil | apply TakeL.cons | exact Take.head | apply Take.tail)); done))
          · exact fun w1 S1 hS1 hs1 ho1 => read_spec q' none M2.again (i + 2) 5 a t.length w1 S1 hS1 k3
          rintro _ _ ⟨rfl, rfl⟩
          first | refine WL.app4 ?_ | refine WL.app3 ?_ | refine WL.app2 ?_ | refine WL.app1 ?_ | refine WL.app0 ?_ | skip
          rw [hrd]
          dsimp only
          generalize ((M2.again.page 5).take (a + t.length)).drop a = s at hr hsl
          repeat first
            | (apply WL.q; exact rfl; exact rfl; exact rfl; (first | (apply EvW.move; exact rfl) | (apply EvW.assign; exact rfl) | (apply EvW.extract; exact rfl; exact rfl) | (apply EvW.lenS; exact rfl; exact UndC.eq) | (apply EvW.cmpF; exact rfl; exact rfl; exact rfl; omega) | (apply EvW.pickF; exact rfl; exact rfl)))
            | refine WC.seq ?_ | refine WC.region ?_ | refine WL.nil ?_ | refine WE.next ?_ | refine WC.block ?_ | refine WC.skip ?_ | refine WC.condF rfl ?_ | refine WL.wanted rfl rfl rfl ?_
          refine WC.loopK (σ := Nat) [0, 1, 7, 11, 32, 33, 34] (fun s => [(13, i64 s)]) (fun s => [.blk q' (Value.map (none) :: i64 (M2.again).ar :: i64 (M2.again).ac :: Value.bool (M2.again).off :: ((M2.again).pages.map str ++ (M2.again).worn.map i64)).toArray 41, .omap none []]) (fun s => s ≤ t.length) (fun s => t.length - s) 0 (by (focus ((repeat (first | exact Pick.nil | (apply Pick.cons; exact rfl))); done))) (by (focus ((repeat (first | exact trivial | (refine ⟨rfl, ?_⟩))); done))) (fun _ h => h.keep (by (focus ((repeat (first | exact TakeL.nil | apply TakeL.cons | exact Take.head | apply Take.tail)); done)))) (Nat.zero_le _) (fun s hs => ?_)
          obtain ⟨k, rfl⟩ : ∃ q, q = s := ⟨s, rfl⟩
          simp only [List.cons_append, List.nil_append] at hs ⊢
          by_cases hk : (k : Int) < (t.length : Nat)
          · have hkk := hr k (by omega)
            by_cases hst : ((s.getD ((k : Nat) : Int).toNat 0).toNat : Int) = (t.getD ((k : Nat) : Int).toNat 0).toNat
            · repeat first
                | (apply WL.q; exact rfl; exact rfl; exact rfl; (first | (apply EvW.move; exact rfl) | (apply EvW.lenS; exact rfl; exact UndC.eq) | (apply EvW.cmpT; exact rfl; exact rfl; exact rfl; omega)))
                | refine WC.seq ?_ | refine WC.region ?_ | refine WL.nil ?_ | refine WE.next ?_ | refine WC.block ?_ | refine WC.skip ?_ | refine WC.condT rfl ?_
              repeat refine WC.seq ?_
              refine WC.keep (xs := [.blk q' (Value.map (none) :: i64 (M2.again).ar :: i64 (M2.again).ac :: Value.bool (M2.again).off :: ((M2.again).pages.map str ++ (M2.again).worn.map i64)).toArray 41, .omap none []]) (by (focus ((repeat (first | exact TakeL.nil | apply TakeL.cons | exact Take.head | apply Take.tail)); done))) ?_
              apply WC.par _ (fun c : Ch => [.blk q' (Value.map (none) :: i64 (M2.again).ar :: i64 (M2.again).ac :: Value.bool (M2.again).off :: ((M2.again).pages.map str ++ (M2.again).worn.map i64)).toArray 41, .omap none []]) [none, none] [none, none] [] Try.mixed
              · (focus ((repeat (first | exact Restr.nil | (apply Restr.keep; exact rfl; exact rfl) | (apply Restr.drop; exact rfl))); done))
              · intro c; exact (by (focus ((repeat (first | exact SelT.nil | apply SelT.yes | apply SelT.no)); done)))
              · exact rfl
              · decide +kernel
              · decide +kernel
              · intro c
                (apply Par.quiet _ [true, true]; exact rfl; decide +kernel; exact rfl; intro R; refine ⟨_, (by (focus ((repeat (first | exact SelT.nil | apply SelT.yes | apply SelT.no)); done))), ?_⟩;
                     (first | (apply EvW.move; exact rfl)))
                (apply Par.quiet _ [true, true]; exact rfl; decide +kernel; exact rfl; intro R; refine ⟨_, (by (focus ((repeat (first | exact SelT.nil | apply SelT.yes | apply SelT.no)); done))), ?_⟩;
                     (first | (apply EvW.move; exact rfl)))
                (apply Par.quiet _ [true, true]; exact rfl; decide +kernel; exact rfl; intro R; refine ⟨_, (by (focus ((repeat (first | exact SelT.nil | apply SelT.yes | apply SelT.no)); done))), ?_⟩;
                     (first | (apply EvW.index; exact rfl; exact rfl; exact UndC.eq; omega; omega)))
                (apply Par.quiet _ [true, true]; exact rfl; decide +kernel; exact rfl; intro R; refine ⟨_, (by (focus ((repeat (first | exact SelT.nil | apply SelT.yes | apply SelT.no)); done))), ?_⟩;
                     (first | (apply EvW.move; exact rfl)))
                (apply Par.quiet _ [true, true]; exact rfl; decide +kernel; exact rfl; intro R; refine ⟨_, (by (focus ((repeat (first | exact SelT.nil | apply SelT.yes | apply SelT.no)); done))), ?_⟩;
                     (first | (apply EvW.move; exact rfl)))
                (apply Par.quiet _ [true, true]; exact rfl; decide +kernel; exact rfl; intro R; refine ⟨_, (by (focus ((repeat (first | exact SelT.nil | apply SelT.yes | apply SelT.no)); done))), ?_⟩;
                     (first | (apply EvW.index; exact rfl; exact rfl; exact UndC.eq; omega; omega)))
                (apply Par.quiet _ [true, true]; exact rfl; decide +kernel; exact rfl; intro R; refine ⟨_, (by (focus ((repeat (first | exact SelT.nil | apply SelT.yes | apply SelT.no)); done))), ?_⟩;
                     (first | (apply EvW.cmpF; exact rfl; exact rfl; exact rfl; omega)))
                (apply Par.quiet _ [true, true]; exact rfl; decide +kernel; exact rfl; intro R; refine ⟨_, (by (focus ((repeat (first | exact SelT.nil | apply SelT.yes | apply SelT.no)); done))), ?_⟩;
                     (first | (apply EvW.move; exact rfl)))
                first
                  | (apply Par.skip; exact rfl; decide +kernel; exact rfl)
                  | (apply Par.quiet _ [true, true]; exact rfl; decide +kernel; exact rfl; intro R; refine ⟨_, (by (focus ((repeat (first | exact SelT.nil | apply SelT.yes | apply SelT.no)); done))), ?_⟩;
                     fail)
                first
                  | (apply Par.skip; exact rfl; decide +kernel; exact rfl)
                  | (apply Par.quiet _ [true, true]; exact rfl; decide +kernel; exact rfl; intro R; refine ⟨_, (by (focus ((repeat (first | exact SelT.nil | apply SelT.yes | apply SelT.no)); done))), ?_⟩;
                     fail)
                first
                  | (apply Par.skip; exact rfl; decide +kernel; exact rfl)
                  | (apply Par.quiet _ [true, true]; exact rfl; decide +kernel; exact rfl; intro R; refine ⟨_, (by (focus ((repeat (first | exact SelT.nil | apply SelT.yes | apply SelT.no)); done))), ?_⟩;
                     fail)
                first
                  | (apply Par.skip; exact rfl; decide +kernel; exact rfl)
                  | (apply Par.quiet _ [true, true]; exact rfl; decide +kernel; exact rfl; intro R; refine ⟨_, (by (focus ((repeat (first | exact SelT.nil | apply SelT.yes | apply SelT.no)); done))), ?_⟩;
                     fail)
                (apply Par.quiet _ [true, true]; exact rfl; decide +kernel; exact rfl; intro R; refine ⟨_, (by (focus ((repeat (first | exact SelT.nil | apply SelT.yes | apply SelT.no)); done))), ?_⟩;
                     (first | (apply EvW.pickF; exact rfl; exact rfl)))
                exact Par.nil
              · repeat (first | exact AllN.nil | (apply AllN.cons; (intro c x; (repeat (first | exact IndA.nil | (apply IndA.skip; decide +kernel) | apply IndA.same))))) 
              · repeat (first | exact AllN.nil | (apply AllN.cons; (intro c x; (repeat (first | exact IndT.nil | (apply IndT.skip; decide +kernel) | apply IndT.same))))) 
              · exact fun _ => rfl
              intro c
              refine ⟨_, (by (focus ((repeat (first | exact SelT.nil | apply SelT.yes | apply SelT.no)); done))), ?_⟩
              apply WE.writ
              · (focus ((repeat (first | exact Writ.nil | apply Writ.some | apply Writ.none)); done))
              repeat first
                | (apply WL.q; exact rfl; exact rfl; exact rfl; (first | (apply EvW.move; exact rfl) | (apply EvW.assign; exact rfl) | (apply EvW.arN; exact rfl; exact rfl; exact rfl; (first | (refine i64_in ?_ ?_ <;> omega) | (constructor <;> simp only [IntKind.min, IntKind.max, IntKind.signed, IntKind.bits, ↓reduceIte, Bool.false_eq_true] <;> omega)))))
                | refine WC.region ?_ | refine WL.nil ?_ | refine WE.next ?_ | refine WC.skip ?_ | refine WE.out ?_ | refine WC.condF rfl ?_
              exact WE.again (s := k) ((k + 1)) (by omega) (by (focus ((repeat (first | exact trivial | (refine ⟨rfl, ?_⟩))); done))) (fun _ h => (by (try simp only []); exact h.keep (by (focus ((repeat (first | exact TakeL.nil | apply TakeL.cons | exact Take.head | apply Take.tail)); done))))) (by (try simp only []); omega)
            · have h255 : ((t.getD ((k : Nat) : Int).toNat 0).toNat : Int) = 255 := by
                rcases hkk with h | h
                · show ((t.getD k 0).toNat : Int) = 255
                  rw [h]; rfl
                · exact absurd (by show ((s.getD k 0).toNat : Int) = (t.getD k 0).toNat; rw [h]) hst
              repeat first
                | (apply WL.q; exact rfl; exact rfl; exact rfl; (first | (apply EvW.move; exact rfl) | (apply EvW.lenS; exact rfl; exact UndC.eq) | (apply EvW.cmpT; exact rfl; exact rfl; exact rfl; omega)))
                | refine WC.seq ?_ | refine WC.region ?_ | refine WL.nil ?_ | refine WE.next ?_ | refine WC.block ?_ | refine WC.skip ?_ | refine WC.condT rfl ?_
              repeat refine WC.seq ?_
              refine WC.keep (xs := [.blk q' (Value.map (none) :: i64 (M2.again).ar :: i64 (M2.again).ac :: Value.bool (M2.again).off :: ((M2.again).pages.map str ++ (M2.again).worn.map i64)).toArray 41, .omap none []]) (by (focus ((repeat (first | exact TakeL.nil | apply TakeL.cons | exact Take.head | apply Take.tail)); done))) ?_
              apply WC.par _ (fun c : Ch => [.blk q' (Value.map (none) :: i64 (M2.again).ar :: i64 (M2.again).ac :: Value.bool (M2.again).off :: ((M2.again).pages.map str ++ (M2.again).worn.map i64)).toArray 41, .omap none []]) [none, none] [none, none] [] Try.mixed
              · (focus ((repeat (first | exact Restr.nil | (apply Restr.keep; exact rfl; exact rfl) | (apply Restr.drop; exact rfl))); done))
              · intro c; exact (by (focus ((repeat (first | exact SelT.nil | apply SelT.yes | apply SelT.no)); done)))
              · exact rfl
              · decide +kernel
              · decide +kernel
              · intro c
                (apply Par.quiet _ [true, true]; exact rfl; decide +kernel; exact rfl; intro R; refine ⟨_, (by (focus ((repeat (first | exact SelT.nil | apply SelT.yes | apply SelT.no)); done))), ?_⟩;
                     (first | (apply EvW.move; exact rfl)))
                (apply Par.quiet _ [true, true]; exact rfl; decide +kernel; exact rfl; intro R; refine ⟨_, (by (focus ((repeat (first | exact SelT.nil | apply SelT.yes | apply SelT.no)); done))), ?_⟩;
                     (first | (apply EvW.move; exact rfl)))
                (apply Par.quiet _ [true, true]; exact rfl; decide +kernel; exact rfl; intro R; refine ⟨_, (by (focus ((repeat (first | exact SelT.nil | apply SelT.yes | apply SelT.no)); done))), ?_⟩;
                     (first | (apply EvW.index; exact rfl; exact rfl; exact UndC.eq; omega; omega)))
                (apply Par.quiet _ [true, true]; exact rfl; decide +kernel; exact rfl; intro R; refine ⟨_, (by (focus ((repeat (first | exact SelT.nil | apply SelT.yes | apply SelT.no)); done))), ?_⟩;
                     (first | (apply EvW.move; exact rfl)))
                (apply Par.quiet _ [true, true]; exact rfl; decide +kernel; exact rfl; intro R; refine ⟨_, (by (focus ((repeat (first | exact SelT.nil | apply SelT.yes | apply SelT.no)); done))), ?_⟩;
                     (first | (apply EvW.move; exact rfl)))
                (apply Par.quiet _ [true, true]; exact rfl; decide +kernel; exact rfl; intro R; refine ⟨_, (by (focus ((repeat (first | exact SelT.nil | apply SelT.yes | apply SelT.no)); done))), ?_⟩;
                     (first | (apply EvW.index; exact rfl; exact rfl; exact UndC.eq; omega; omega)))
                (apply Par.quiet _ [true, true]; exact rfl; decide +kernel; exact rfl; intro R; refine ⟨_, (by (focus ((repeat (first | exact SelT.nil | apply SelT.yes | apply SelT.no)); done))), ?_⟩;
                     (first | (apply EvW.cmpT; exact rfl; exact rfl; exact rfl; omega)))
                (apply Par.quiet _ [true, true]; exact rfl; decide +kernel; exact rfl; intro R; refine ⟨_, (by (focus ((repeat (first | exact SelT.nil | apply SelT.yes | apply SelT.no)); done))), ?_⟩;
                     (first | (apply EvW.move; exact rfl)))
                first
                  | (apply Par.skip; exact rfl; decide +kernel; exact rfl)
                  | (apply Par.quiet _ [true, true]; exact rfl; decide +kernel; exact rfl; intro R; refine ⟨_, (by (focus ((repeat (first | exact SelT.nil | apply SelT.yes | apply SelT.no)); done))), ?_⟩;
                     (first | (apply EvW.move; exact rfl)))
                first
                  | (apply Par.skip; exact rfl; decide +kernel; exact rfl)
                  | (apply Par.quiet _ [true, true]; exact rfl; decide +kernel; exact rfl; intro R; refine ⟨_, (by (focus ((repeat (first | exact SelT.nil | apply SelT.yes | apply SelT.no)); done))), ?_⟩;
                     (first | (apply EvW.move; exact rfl)))
                first
                  | (apply Par.skip; exact rfl; decide +kernel; exact rfl)
                  | (apply Par.quiet _ [true, true]; exact rfl; decide +kernel; exact rfl; intro R; refine ⟨_, (by (focus ((repeat (first | exact SelT.nil | apply SelT.yes | apply SelT.no)); done))), ?_⟩;
                     (first | (apply EvW.index; exact rfl; exact rfl; exact UndC.eq; omega; omega)))
                first
                  | (apply Par.skip; exact rfl; decide +kernel; exact rfl)
                  | (apply Par.quiet _ [true, true]; exact rfl; decide +kernel; exact rfl; intro R; refine ⟨_, (by (focus ((repeat (first | exact SelT.nil | apply SelT.yes | apply SelT.no)); done))), ?_⟩;
                     (first | (apply EvW.cmpF; exact rfl; exact rfl; exact rfl; omega)))
                (apply Par.quiet _ [true, true]; exact rfl; decide +kernel; exact rfl; intro R; refine ⟨_, (by (focus ((repeat (first | exact SelT.nil | apply SelT.yes | apply SelT.no)); done))), ?_⟩;
                     (first | (apply EvW.pickT; exact rfl; exact rfl)))
                exact Par.nil
              · repeat (first | exact AllN.nil | (apply AllN.cons; (intro c x; (repeat (first | exact IndA.nil | (apply IndA.skip; decide +kernel) | apply IndA.same))))) 
              · repeat (first | exact AllN.nil | (apply AllN.cons; (intro c x; (repeat (first | exact IndT.nil | (apply IndT.skip; decide +kernel) | apply IndT.same))))) 
              · exact fun _ => rfl
              intro c
              refine ⟨_, (by (focus ((repeat (first | exact SelT.nil | apply SelT.yes | apply SelT.no)); done))), ?_⟩
              apply WE.writ
              · (focus ((repeat (first | exact Writ.nil | apply Writ.some | apply Writ.none)); done))
              repeat first
                | (apply WL.q; exact rfl; exact rfl; exact rfl; (first | (apply EvW.move; exact rfl) | (apply EvW.assign; exact rfl) | (apply EvW.arN; exact rfl; exact rfl; exact rfl; (first | (refine i64_in ?_ ?_ <;> omega) | (constructor <;> simp only [IntKind.min, IntKind.max, IntKind.signed, IntKind.bits, ↓reduceIte, Bool.false_eq_true] <;> omega)))))
                | refine WC.region ?_ | refine WL.nil ?_ | refine WE.next ?_ | refine WC.skip ?_ | refine WE.out ?_ | refine WC.condF rfl ?_
              exact WE.again (s := k) ((k + 1)) (by omega) (by (focus ((repeat (first | exact trivial | (refine ⟨rfl, ?_⟩))); done))) (fun _ h => (by (try simp only []); exact h.keep (by (focus ((repeat (first | exact TakeL.nil | apply TakeL.cons | exact Take.head | apply Take.tail)); done))))) (by (try simp only []); omega)
          · repeat first
              | (apply WL.q; exact rfl; exact rfl; exact rfl; (first | (apply EvW.move; exact rfl) | (apply EvW.lenS; exact rfl; exact UndC.eq) | (apply EvW.cmpF; exact rfl; exact rfl; exact rfl; omega) | (apply EvW.arN; exact rfl; exact rfl; exact rfl; (first | (refine i64_in ?_ ?_ <;> omega) | (constructor <;> simp only [IntKind.min, IntKind.max, IntKind.signed, IntKind.bits, ↓reduceIte, Bool.false_eq_true] <;> omega)))))
              | refine WC.seq ?_ | refine WC.region ?_ | refine WL.nil ?_ | refine WE.next ?_ | refine WC.exit ?_ | refine WE.pass ?_ | refine WE.hit ?_ | refine WE.out ?_ | refine WC.condF rfl ?_
            exact WE.again (s := (i, q, m)) ((i + 1, q', M2.again)) ⟨by simp only []; omega, by simp only []; omega, k3, rfl, kp3⟩ (by (focus ((repeat (first | exact trivial | (refine ⟨rfl, ?_⟩))); done))) (fun _ h => (by (try simp only []); exact h.keep (by (focus ((repeat (first | exact TakeL.nil | apply TakeL.cons | exact Take.head | apply Take.tail)); done))))) (by (try simp only []); omega)
      · repeat first
          | (apply WL.q; exact rfl; exact rfl; exact rfl; (first | (apply EvW.move; exact rfl) | (apply EvW.assign; exact rfl) | (apply EvW.cmpT; exact rfl; exact rfl; exact rfl; omega) | (apply EvW.pickT; exact rfl; exact rfl) | (apply EvW.rem; exact rfl; exact rfl; omega)))
          | refine WC.seq ?_ | refine WC.region ?_ | refine WL.nil ?_ | refine WE.next ?_ | refine WC.block ?_ | refine WC.condT rfl ?_ | refine WL.wanted rfl rfl rfl ?_
        obtain ⟨M2, hM2⟩ : ∃ M2, (Mem.erased { m with ar := 0 } pg (cutF (some (x.tmod 5000)) 4096).1).act (some (x.tmod 5000)) = M2 := ⟨_, rfl⟩
        have k2 : M2.wf (i + 2) := by rw [← hM2]; exact erase_wf (ct := some (x.tmod 5000)) km hpg0
        have kp2 : Kept t a (M2.page 5) := by rw [← hM2]; exact kept_erase km hK hpg0 h5
        try refine WL.wanted rfl rfl rfl ?_
        apply WL.callA ([.blk q (Value.map (some mb) :: i64 ({ m with ar := 0 }).ar :: i64 ({ m with ar := 0 }).ac :: Value.bool ({ m with ar := 0 }).off :: (({ m with ar := 0 }).pages.map str ++ ({ m with ar := 0 }).worn.map i64)).toArray 41, .omap (some mb) (armM [⟨0, x.tmod 5000⟩])])
        · exact rfl
        · exact rfl
        · exact fun w => Try.call15 _ w
        · (focus ((repeat (first | exact TakeL.nil | apply TakeL.cons | exact Take.head | apply Take.tail)); done))
        · exact fun w1 S1 hS1 hs1 ho1 => erase_spec q (some mb) { m with ar := 0 } (i + 1) (armM [⟨0, x.tmod 5000⟩]) pg (some (x.tmod 5000)) w1 S1 hS1 (place_ok hoff hpg0 (by decide)) km (by omega) (fun h => absurd h (by simp)) rfl
        rintro _ _ ⟨rfl, rfl⟩
        first | refine WL.app4 ?_ | refine WL.app3 ?_ | refine WL.app2 ?_ | refine WL.app1 ?_ | refine WL.app0 ?_ | skip
        rw [hM2]
        have k3 := again_wf k2
        have kp3 : Kept t a (M2.again.page 5) := kp2
        have hr := kept_read kp3 (by omega)
        have hrd : M2.again.read 5 a t.length = (((M2.again.page 5).take (a + t.length)).drop a, 0) := by
          rw [read_ok (place_ok rfl (by decide) (by omega)) (by omega) (by omega), show ((a : Int) + t.length).toNat = a + t.length by omega]; rfl
        have hsl : (((M2.again.page 5).take (a + t.length)).drop a).length = t.length := by rw [List.length_drop, List.length_take, kp3.1]; omega
        repeat first
          | (apply WL.q; exact rfl; exact rfl; exact rfl; (first | (apply EvW.move; exact rfl)))
          | refine WC.seq ?_ | refine WC.region ?_ | refine WL.nil ?_ | refine WE.next ?_ | refine WE.out ?_
        try refine WL.wanted rfl rfl rfl ?_
        apply WL.callA ([.blk q (Value.map (some mb) :: i64 (M2).ar :: i64 (M2).ac :: Value.bool (M2).off :: ((M2).pages.map str ++ (M2).worn.map i64)).toArray 41])
        · exact rfl
        · exact rfl
        · exact fun w => Try.call14 _ w
        · (focus ((repeat (first | exact TakeL.nil | apply TakeL.cons | exact Take.head | apply Take.tail)); done))
        · exact fun w1 S1 hS1 hs1 ho1 => again_spec q (some mb) M2 (i + 2) w1 S1 hS1 k2
        rintro _ _ ⟨q', rfl, rfl⟩
        first | refine WL.app4 ?_ | refine WL.app3 ?_ | refine WL.app2 ?_ | refine WL.app1 ?_ | refine WL.app0 ?_ | skip
        refine WL.omapNil ?_
        repeat first
          | (apply WL.q; exact rfl; exact rfl; exact rfl; (first | (apply EvW.move; exact rfl) | (apply EvW.assign; exact rfl) | (apply EvW.nilPtr; exact rfl) | (apply EvW.fieldAddr0; exact rfl; exact FldC.eq) | (apply EvW.peqN; exact rfl; exact rfl; exact UndC.eq)))
          | refine WC.seq ?_ | refine WC.region ?_ | refine WL.nil ?_ | refine WE.next ?_ | refine WL.wanted rfl rfl rfl ?_
        try refine WL.wanted rfl rfl rfl ?_
        apply WL.callA ([.blk q' (Value.map (none) :: i64 (M2.again).ar :: i64 (M2.again).ac :: Value.bool (M2.again).off :: ((M2.again).pages.map str ++ (M2.again).worn.map i64)).toArray 41])
        · exact rfl
        · exact rfl
        · exact fun w => Try.call17 _ w
        · (focus ((repeat (first | exact TakeL.nil | apply TakeL.cons | exact Take.head | apply Take.tail)); done))
        · exact fun w1 S1 hS1 hs1 ho1 => down_spec q' none M2.again false w1 S1 hS1 rfl
        rintro _ _ ⟨rfl, rfl⟩
        first | refine WL.app4 ?_ | refine WL.app3 ?_ | refine WL.app2 ?_ | refine WL.app1 ?_ | refine WL.app0 ?_ | skip
        repeat first
          | (apply WL.q; exact rfl; exact rfl; exact rfl; (first | (apply EvW.move; exact rfl) | (apply EvW.nilPtr; exact rfl) | (apply EvW.fieldAddr0; exact rfl; exact FldC.eq) | (apply EvW.pickF; exact rfl; exact rfl)))
          | refine WL.wanted rfl rfl rfl ?_
        try refine WL.wanted rfl rfl rfl ?_
        apply WL.callA ([.blk q' (Value.map (none) :: i64 (M2.again).ar :: i64 (M2.again).ac :: Value.bool (M2.again).off :: ((M2.again).pages.map str ++ (M2.again).worn.map i64)).toArray 41])
        · exact rfl
        · exact rfl
        · exact fun w => Try.call26 _ w
        · (focus ((repeat (first | exact TakeL.nil | apply TakeL.cons | exact Take.head | apply Take.tail)); done))
        · exact fun w1 S1 hS1 hs1 ho1 => acts_spec q' none M2.again w1 S1 hS1
        rintro _ _ ⟨rfl, rfl⟩
        first | refine WL.app4 ?_ | refine WL.app3 ?_ | refine WL.app2 ?_ | refine WL.app1 ?_ | refine WL.app0 ?_ | skip
        rw [show i64 M2.again.ac = i64 0 from rfl]
        repeat first
          | (apply WL.q; exact rfl; exact rfl; exact rfl; (first | (apply EvW.move; exact rfl) | (apply EvW.lenS; exact rfl; exact UndC.eq) | (apply EvW.cmpF; exact rfl; exact rfl; exact rfl; omega) | (apply EvW.pickF; exact rfl; exact rfl)))
          | refine WC.seq ?_ | refine WC.region ?_ | refine WL.nil ?_ | refine WE.next ?_ | refine WC.skip ?_ | refine WC.condF rfl ?_ | refine WL.wanted rfl rfl rfl ?_
        try refine WL.wanted rfl rfl rfl ?_
        apply WL.callA ([.blk q' (Value.map (none) :: i64 (M2.again).ar :: i64 (M2.again).ac :: Value.bool (M2.again).off :: ((M2.again).pages.map str ++ (M2.again).worn.map i64)).toArray 41])
        · exact rfl
        · exact rfl
        · exact fun w => Try.call12 _ w
        · (focus ((repeat (first | exact TakeL.nil | apply TakeL.cons | exact Take.head | apply Take.tail)); done))
        · exact fun w1 S1 hS1 hs1 ho1 => read_spec q' none M2.again (i + 2) 5 a t.length w1 S1 hS1 k3
        rintro _ _ ⟨rfl, rfl⟩
        first | refine WL.app4 ?_ | refine WL.app3 ?_ | refine WL.app2 ?_ | refine WL.app1 ?_ | refine WL.app0 ?_ | skip
        rw [hrd]
        dsimp only
        generalize ((M2.again.page 5).take (a + t.length)).drop a = s at hr hsl
        repeat first
          | (apply WL.q; exact rfl; exact rfl; exact rfl; (first | (apply EvW.move; exact rfl) | (apply EvW.assign; exact rfl) | (apply EvW.extract; exact rfl; exact rfl) | (apply EvW.lenS; exact rfl; exact UndC.eq) | (apply EvW.cmpF; exact rfl; exact rfl; exact rfl; omega) | (apply EvW.pickF; exact rfl; exact rfl)))
          | refine WC.seq ?_ | refine WC.region ?_ | refine WL.nil ?_ | refine WE.next ?_ | refine WC.block ?_ | refine WC.skip ?_ | refine WC.condF rfl ?_ | refine WL.wanted rfl rfl rfl ?_
        refine WC.loopK (σ := Nat) [0, 1, 7, 11, 32, 33, 34] (fun s => [(13, i64 s)]) (fun s => [.blk q' (Value.map (none) :: i64 (M2.again).ar :: i64 (M2.again).ac :: Value.bool (M2.again).off :: ((M2.again).pages.map str ++ (M2.again).worn.map i64)).toArray 41, .omap none []]) (fun s => s ≤ t.length) (fun s => t.length - s) 0 (by (focus ((repeat (first | exact Pick.nil | (apply Pick.cons; exact rfl))); done))) (by (focus ((repeat (first | exact trivial | (refine ⟨rfl, ?_⟩))); done))) (fun _ h => h.keep (by (focus ((repeat (first | exact TakeL.nil | apply TakeL.cons | exact Take.head | apply Take.tail)); done)))) (Nat.zero_le _) (fun s hs => ?_)
        obtain ⟨k, rfl⟩ : ∃ q, q = s := ⟨s, rfl⟩
        simp only [List.cons_append, List.nil_append] at hs ⊢
        by_cases hk : (k : Int) < (t.length : Nat)
        · have hkk := hr k (by omega)
          by_cases hst : ((s.getD ((k : Nat) : Int).toNat 0).toNat : Int) = (t.getD ((k : Nat) : Int).toNat 0).toNat
          · repeat first
              | (apply WL.q; exact rfl; exact rfl; exact rfl; (first | (apply EvW.move; exact rfl) | (apply EvW.lenS; exact rfl; exact UndC.eq) | (apply EvW.cmpT; exact rfl; exact rfl; exact rfl; omega)))
              | refine WC.seq ?_ | refine WC.region ?_ | refine WL.nil ?_ | refine WE.next ?_ | refine WC.block ?_ | refine WC.skip ?_ | refine WC.condT rfl ?_
            repeat refine WC.seq ?_
            refine WC.keep (xs := [.blk q' (Value.map (none) :: i64 (M2.again).ar :: i64 (M2.again).ac :: Value.bool (M2.again).off :: ((M2.again).pages.map str ++ (M2.again).worn.map i64)).toArray 41, .omap none []]) (by (focus ((repeat (first | exact TakeL.nil | apply TakeL.cons | exact Take.head | apply Take.tail)); done))) ?_
            apply WC.par _ (fun c : Ch => [.blk q' (Value.map (none) :: i64 (M2.again).ar :: i64 (M2.again).ac :: Value.bool (M2.again).off :: ((M2.again).pages.map str ++ (M2.again).worn.map i64)).toArray 41, .omap none []]) [none, none] [none, none] [] Try.mixed
            · (focus ((repeat (first | exact Restr.nil | (apply Restr.keep; exact rfl; exact rfl) | (apply Restr.drop; exact rfl))); done))
            · intro c; exact (by (focus ((repeat (first | exact SelT.nil | apply SelT.yes | apply SelT.no)); done)))
            · exact rfl
            · decide +kernel
            · decide +kernel
            · intro c
              (apply Par.quiet _ [true, true]; exact rfl; decide +kernel; exact rfl; intro R; refine ⟨_, (by (focus ((repeat (first | exact SelT.nil | apply SelT.yes | apply SelT.no)); done))), ?_⟩;
                   (first | (apply EvW.move; exact rfl)))
              (apply Par.quiet _ [true, true]; exact rfl; decide +kernel; exact rfl; intro R; refine ⟨_, (by (focus ((repeat (first | exact SelT.nil | apply SelT.yes | apply SelT.no)); done))), ?_⟩;
                   (first | (apply EvW.move; exact rfl)))
              (apply Par.quiet _ [true, true]; exact rfl; decide +kernel; exact rfl; intro R; refine ⟨_, (by (focus ((repeat (first | exact SelT.nil | apply SelT.yes | apply SelT.no)); done))), ?_⟩;
                   (first | (apply EvW.index; exact rfl; exact rfl; exact UndC.eq; omega; omega)))
              (apply Par.quiet _ [true, true]; exact rfl; decide +kernel; exact rfl; intro R; refine ⟨_, (by (focus ((repeat (first | exact SelT.nil | apply SelT.yes | apply SelT.no)); done))), ?_⟩;
                   (first | (apply EvW.move; exact rfl)))
              (apply Par.quiet _ [true, true]; exact rfl; decide +kernel; exact rfl; intro R; refine ⟨_, (by (focus ((repeat (first | exact SelT.nil | apply SelT.yes | apply SelT.no)); done))), ?_⟩;
                   (first | (apply EvW.move; exact rfl)))
              (apply Par.quiet _ [true, true]; exact rfl; decide +kernel; exact rfl; intro R; refine ⟨_, (by (focus ((repeat (first | exact SelT.nil | apply SelT.yes | apply SelT.no)); done))), ?_⟩;
                   (first | (apply EvW.index; exact rfl; exact rfl; exact UndC.eq; omega; omega)))
              (apply Par.quiet _ [true, true]; exact rfl; decide +kernel; exact rfl; intro R; refine ⟨_, (by (focus ((repeat (first | exact SelT.nil | apply SelT.yes | apply SelT.no)); done))), ?_⟩;
                   (first | (apply EvW.cmpF; exact rfl; exact rfl; exact rfl; omega)))
              (apply Par.quiet _ [true, true]; exact rfl; decide +kernel; exact rfl; intro R; refine ⟨_, (by (focus ((repeat (first | exact SelT.nil | apply SelT.yes | apply SelT.no)); done))), ?_⟩;
                   (first | (apply EvW.move; exact rfl)))
              first
                | (apply Par.skip; exact rfl; decide +kernel; exact rfl)
                | (apply Par.quiet _ [true, true]; exact rfl; decide +kernel; exact rfl; intro R; refine ⟨_, (by (focus ((repeat (first | exact SelT.nil | apply SelT.yes | apply SelT.no)); done))), ?_⟩;
                   fail)
              first
                | (apply Par.skip; exact rfl; decide +kernel; exact rfl)
                | (apply Par.quiet _ [true, true]; exact rfl; decide +kernel; exact rfl; intro R; refine ⟨_, (by (focus ((repeat (first | exact SelT.nil | apply SelT.yes | apply SelT.no)); done))), ?_⟩;
                   fail)
              first
                | (apply Par.skip; exact rfl; decide +kernel; exact rfl)
                | (apply Par.quiet _ [true, true]; exact rfl; decide +kernel; exact rfl; intro R; refine ⟨_, (by (focus ((repeat (first | exact SelT.nil | apply SelT.yes | apply SelT.no)); done))), ?_⟩;
                   fail)
              first
                | (apply Par.skip; exact rfl; decide +kernel; exact rfl)
                | (apply Par.quiet _ [true, true]; exact rfl; decide +kernel; exact rfl; intro R; refine ⟨_, (by (focus ((repeat (first | exact SelT.nil | apply SelT.yes | apply SelT.no)); done))), ?_⟩;
                   fail)
              (apply Par.quiet _ [true, true]; exact rfl; decide +kernel; exact rfl; intro R; refine ⟨_, (by (focus ((repeat (first | exact SelT.nil | apply SelT.yes | apply SelT.no)); done))), ?_⟩;
                   (first | (apply EvW.pickF; exact rfl; exact rfl)))
              exact Par.nil
            · repeat (first | exact AllN.nil | (apply AllN.cons; (intro c x; (repeat (first | exact IndA.nil | (apply IndA.skip; decide +kernel) | apply IndA.same))))) 
            · repeat (first | exact AllN.nil | (apply AllN.cons; (intro c x; (repeat (first | exact IndT.nil | (apply IndT.skip; decide +kernel) | apply IndT.same))))) 
            · exact fun _ => rfl
            intro c
            refine ⟨_, (by (focus ((repeat (first | exact SelT.nil | apply SelT.yes | apply SelT.no)); done))), ?_⟩
            apply WE.writ
            · (focus ((repeat (first | exact Writ.nil | apply Writ.some | apply Writ.none)); done))
            repeat first
              | (apply WL.q; exact rfl; exact rfl; exact rfl; (first | (apply EvW.move; exact rfl) | (apply EvW.assign; exact rfl) | (apply EvW.arN; exact rfl; exact rfl; exact rfl; (first | (refine i64_in ?_ ?_ <;> omega) | (constructor <;> simp only [IntKind.min, IntKind.max, IntKind.signed, IntKind.bits, ↓reduceIte, Bool.false_eq_true] <;> omega)))))
              | refine WC.region ?_ | refine WL.nil ?_ | refine WE.next ?_ | refine WC.skip ?_ | refine WE.out ?_ | refine WC.condF rfl ?_
            exact WE.again (s := k) ((k + 1)) (by omega) (by (focus ((repeat (first | exact trivial | (refine ⟨rfl, ?_⟩))); done))) (fun _ h => (by (try simp only []); exact h.keep (by (focus ((repeat (first | exact TakeL.nil | apply TakeL.cons | exact Take.head | apply Take.tail)); done))))) (by (try simp only []); omega)
          · have h255 : ((t.getD ((k : Nat) : Int).toNat 0).toNat : Int) = 255 := by
              rcases hkk with h | h
              · show ((t.getD k 0).toNat : Int) = 255
                rw [h]; rfl
              · exact absurd (by show ((s.getD k 0).toNat : Int) = (t.getD k 0).toNat; rw [h]) hst
            repeat first
              | (apply WL.q; exact rfl; exact rfl; exact rfl; (first | (apply EvW.move; exact rfl) | (apply EvW.lenS; exact rfl; exact UndC.eq) | (apply EvW.cmpT; exact rfl; exact rfl; exact rfl; omega)))
              | refine WC.seq ?_ | refine WC.region ?_ | refine WL.nil ?_ | refine WE.next ?_ | refine WC.block ?_ | refine WC.skip ?_ | refine WC.condT rfl ?_
            repeat refine WC.seq ?_
            refine WC.keep (xs := [.blk q' (Value.map (none) :: i64 (M2.again).ar :: i64 (M2.again).ac :: Value.bool (M2.again).off :: ((M2.again).pages.map str ++ (M2.again).worn.map i64)).toArray 41, .omap none []]) (by (focus ((repeat (first | exact TakeL.nil | apply TakeL.cons | exact Take.head | apply Take.tail)); done))) ?_
            apply WC.par _ (fun c : Ch => [.blk q' (Value.map (none) :: i64 (M2.again).ar :: i64 (M2.again).ac :: Value.bool (M2.again).off :: ((M2.again).pages.map str ++ (M2.again).worn.map i64)).toArray 41, .omap none []]) [none, none] [none, none] [] Try.mixed
            · (focus ((repeat (first | exact Restr.nil | (apply Restr.keep; exact rfl; exact rfl) | (apply Restr.drop; exact rfl))); done))
            · intro c; exact (by (focus ((repeat (first | exact SelT.nil | apply SelT.yes | apply SelT.no)); done)))
            · exact rfl
            · decide +kernel
            · decide +kernel
            · intro c
              (apply Par.quiet _ [true, true]; exact rfl; decide +kernel; exact rfl; intro R; refine ⟨_, (by (focus ((repeat (first | exact SelT.nil | apply SelT.yes | apply SelT.no)); done))), ?_⟩;
                   (first | (apply EvW.move; exact rfl)))
              (apply Par.quiet _ [true, true]; exact rfl; decide +kernel; exact rfl; intro R; refine ⟨_, (by (focus ((repeat (first | exact SelT.nil | apply SelT.yes | apply SelT.no)); done))), ?_⟩;
                   (first | (apply EvW.move; exact rfl)))
              (apply Par.quiet _ [true, true]; exact rfl; decide +kernel; exact rfl; intro R; refine ⟨_, (by (focus ((repeat (first | exact SelT.nil | apply SelT.yes | apply SelT.no)); done))), ?_⟩;
                   (first | (apply EvW.index; exact rfl; exact rfl; exact UndC.eq; omega; omega)))
              (apply Par.quiet _ [true, true]; exact rfl; decide +kernel; exact rfl; intro R; refine ⟨_, (by (focus ((repeat (first | exact SelT.nil | apply SelT.yes | apply SelT.no)); done))), ?_⟩;
                   (first | (apply EvW.move; exact rfl)))
              (apply Par.quiet _ [true, true]; exact rfl; decide +kernel; exact rfl; intro R; refine ⟨_, (by (focus ((repeat (first | exact SelT.nil | apply SelT.yes | apply SelT.no)); done))), ?_⟩;
                   (first | (apply EvW.move; exact rfl)))
              (apply Par.quiet _ [true, true]; exact rfl; decide +kernel; exact rfl; intro R; refine ⟨_, (by (focus ((repeat (first | exact SelT.nil | apply SelT.yes | apply SelT.no)); done))), ?_⟩;
                   (first | (apply EvW.index; exact rfl; exact rfl; exact UndC.eq; omega; omega)))
              (apply Par.quiet _ [true, true]; exact rfl; decide +kernel; exact rfl; intro R; refine ⟨_, (by (focus ((repeat (first | exact SelT.nil | apply SelT.yes | apply SelT.no)); done))), ?_⟩;
                   (first | (apply EvW.cmpT; exact rfl; exact rfl; exact rfl; omega)))
              (apply Par.quiet _ [true, true]; exact rfl; decide +kernel; exact rfl; intro R; refine ⟨_, (by (focus ((repeat (first | exact SelT.nil | apply SelT.yes | apply SelT.no)); done))), ?_⟩;
                   (first | (apply EvW.move; exact rfl)))
              first
                | (apply Par.skip; exact rfl; decide +kernel; exact rfl)
                | (apply Par.quiet _ [true, true]; exact rfl; decide +kernel; exact rfl; intro R; refine ⟨_, (by (focus ((repeat (first | exact SelT.nil | apply SelT.yes | apply SelT.no)); done))), ?_⟩;
                   (first | (apply EvW.move; exact rfl)))
              first
                | (apply Par.skip; exact rfl; decide +kernel; exact rfl)
                | (apply Par.quiet _ [true, true]; exact rfl; decide +kernel; exact rfl; intro R; refine ⟨_, (by (focus ((repeat (first | exact SelT.nil | apply SelT.yes | apply SelT.no)); done))), ?_⟩;
                   (first | (apply EvW.move; exact rfl)))
              first
                | (apply Par.skip; exact rfl; decide +kernel; exact rfl)
                | (apply Par.quiet _ [true, true]; exact rfl; decide +kernel; exact rfl; intro R; refine ⟨_, (by (focus ((repeat (first | exact SelT.nil | apply SelT.yes | apply SelT.no)); done))), ?_⟩;
                   (first | (apply EvW.index; exact rfl; exact rfl; exact UndC.eq; omega; omega)))
              first
                | (apply Par.skip; exact rfl; decide +kernel; exact rfl)
                | (apply Par.quiet _ [true, true]; exact rfl; decide +kernel; exact rfl; intro R; refine ⟨_, (by (focus ((repeat (first | exact SelT.nil | apply SelT.yes | apply SelT.no)); done))), ?_⟩;
                   (first | (apply EvW.cmpF; exact rfl; exact rfl; exact rfl; omega)))
              (apply Par.quiet _ [true, true]; exact rfl; decide +kernel; exact rfl; intro R; refine ⟨_, (by (focus ((repeat (first | exact SelT.nil | apply SelT.yes | apply SelT.no)); done))), ?_⟩;
                   (first | (apply EvW.pickT; exact rfl; exact rfl)))
              exact Par.nil
            · repeat (first | exact AllN.nil | (apply AllN.cons; (intro c x; (repeat (first | exact IndA.nil | (apply IndA.skip; decide +kernel) | apply IndA.same))))) 
            · repeat (first | exact AllN.nil | (apply AllN.cons; (intro c x; (repeat (first | exact IndT.nil | (apply IndT.skip; decide +kernel) | apply IndT.same))))) 
            · exact fun _ => rfl
            intro c
            refine ⟨_, (by (focus ((repeat (first | exact SelT.nil | apply SelT.yes | apply SelT.no)); done))), ?_⟩
            apply WE.writ
            · (focus ((repeat (first | exact Writ.nil | apply Writ.some | apply Writ.none)); done))
            repeat first
              | (apply WL.q; exact rfl; exact rfl; exact rfl; (first | (apply EvW.move; exact rfl) | (apply EvW.assign; exact rfl) | (apply EvW.arN; exact rfl; exact rfl; exact rfl; (first | (refine i64_in ?_ ?_ <;> omega) | (constructor <;> simp only [IntKind.min, IntKind.max, IntKind.signed, IntKind.bits, ↓reduceIte, Bool.false_eq_true] <;> omega)))))
              | refine WC.region ?_ | refine WL.nil ?_ | refine WE.next ?_ | refine WC.skip ?_ | refine WE.out ?_ | refine WC.condF rfl ?_
            exact WE.again (s := k) ((k + 1)) (by omega) (by (focus ((repeat (first | exact trivial | (refine ⟨rfl, ?_⟩))); done))) (fun _ h => (by (try simp only []); exact h.keep (by (focus ((repeat (first | exact TakeL.nil | apply TakeL.cons | exact Take.head | apply Take.tail)); done))))) (by (try simp only []); omega)
        · repeat first
            | (apply WL.q; exact rfl; exact rfl; exact rfl; (first | (apply EvW.move; exact rfl) | (apply EvW.lenS; exact rfl; exact UndC.eq) | (apply EvW.cmpF; exact rfl; exact rfl; exact rfl; omega) | (apply EvW.arN; exact rfl; exact rfl; exact rfl; (first | (refine i64_in ?_ ?_ <;> omega) | (constructor <;> simp only [IntKind.min, IntKind.max, IntKind.signed, IntKind.bits, ↓reduceIte, Bool.false_eq_true] <;> omega)))))
            | refine WC.seq ?_ | refine WC.region ?_ | refine WL.nil ?_ | refine WE.next ?_ | refine WC.exit ?_ | refine WE.pass ?_ | refine WE.hit ?_ | refine WE.out ?_ | refine WC.condF rfl ?_
          exact WE.again (s := (i, q, m)) ((i + 1, q', M2.again)) ⟨by simp only []; omega, by simp only []; omega, k3, rfl, kp3⟩ (by (focus ((repeat (first | exact trivial | (refine ⟨rfl, ?_⟩))); done))) (fun _ h => (by (try simp only []); exact h.keep (by (focus ((repeat (first | exact TakeL.nil | apply TakeL.cons | exact Take.head | apply Take.tail)); done))))) (by (try simp only []); omega)
    · repeat first
        | (apply WL.q; exact rfl; exact rfl; exact rfl; (first | (apply EvW.move; exact rfl) | (apply EvW.assign; exact rfl) | (apply EvW.cmpF; exact rfl; exact rfl; exact rfl; omega) | (apply EvW.convN; exact rfl; exact UndC.eq; exact UndC.eq; (first | (refine i64_in ?_ ?_ <;> omega) | (constructor <;> simp only [IntKind.min, IntKind.max, IntKind.signed, IntKind.bits, ↓reduceIte, Bool.false_eq_true] <;> omega))) | (apply EvW.conv; exact rfl; exact UndC.eq; exact UndC.eq) | (apply EvW.pickF; exact rfl; exact rfl) | (apply EvW.remW; exact rfl; exact rfl; exact rfl; omega) | (apply EvW.rem; exact rfl; exact rfl; omega)))
        | refine WC.seq ?_ | refine WC.region ?_ | refine WL.nil ?_ | refine WE.next ?_ | refine WC.block ?_ | refine WC.condF rfl ?_ | refine WL.unwanted rfl rfl rfl rfl ?_
      rw [hpos]
      by_cases hbad : Mem.bad { m with ar := 0 } pg pos [122, 122, 122, 122] = 0
      · obtain ⟨M2, hM2⟩ : ∃ M2, (Mem.burnt { m with ar := 0 } pg pos [122, 122, 122, 122] (cutF (some (x.tmod 5000)) 4).1).act (some (x.tmod 5000)) = M2 := ⟨_, rfl⟩
        have k2 : M2.wf (i + 2) := by rw [← hM2]; exact burn_wf (ct := some (x.tmod 5000)) km hbad
        have kp2 : Kept t a (M2.page 5) := by rw [← hM2]; exact kept_burn km hK hbad (cutF_bd (some (x.tmod 5000)) 4 (by decide))
        try refine WL.wanted rfl rfl rfl ?_
        (apply WL.buildSlice; exact rfl; exact UndC.eq; exact SzC.eq; exact ZvC.eq; exact rfl; exact rfl; exact rfl; ((focus ((repeat (first | exact Flat.nil | (apply Flat.one; (first | exact rfl | assumption)) | (apply Flat.cons; exact rfl; exact rfl))); done))); exact rfl; exact rfl; intro c3)
        try refine WL.wanted rfl rfl rfl ?_
        apply WL.callA ([.blk q (Value.map (some mb) :: i64 ({ m with ar := 0 }).ar :: i64 ({ m with ar := 0 }).ac :: Value.bool ({ m with ar := 0 }).off :: (({ m with ar := 0 }).pages.map str ++ ({ m with ar := 0 }).worn.map i64)).toArray 41, .omap (some mb) (armM [⟨0, x.tmod 5000⟩])])
        · exact rfl
        · exact rfl
        · exact fun w => Try.call11 _ w
        · (focus ((repeat (first | exact TakeL.nil | apply TakeL.cons | exact Take.head | apply Take.tail)); done))
        · exact fun w1 S1 hS1 hs1 ho1 => burn_spec q (some mb) { m with ar := 0 } (i + 1) (armM [⟨0, x.tmod 5000⟩]) pg pos _ [[122, 122, 122, 122]] [122, 122, 122, 122] (some (x.tmod 5000)) w1 S1 hS1 ((ho1 _ _ .head).blkRow rfl (fun k u h => by simpa using h) (by simp)) (by simp) rfl hbad km (by omega) (fun h => absurd h (by simp)) rfl
        rintro _ _ ⟨rfl, rfl⟩
        first | refine WL.app4 ?_ | refine WL.app3 ?_ | refine WL.app2 ?_ | refine WL.app1 ?_ | refine WL.app0 ?_ | skip
        rw [show (Mem.burnt { m with ar := 0 } pg pos [122, 122, 122, 122] (cutF (some (x.tmod 5000)) (([122, 122, 122, 122] : List UInt8).length : Int)).1).act (some (x.tmod 5000)) = M2 from hM2]
        have k3 := again_wf k2
        have kp3 : Kept t a (M2.again.page 5) := kp2
        have hr := kept_read kp3 (by omega)
        have hrd : M2.again.read 5 a t.length = (((M2.again.page 5).take (a + t.length)).drop a, 0) := by
          rw [read_ok (place_ok rfl (by decide) (by omega)) (by omega) (by omega), show ((a : Int) + t.length).toNat = a + t.length by omega]; rfl
        have hsl : (((M2.again.page 5).take (a + t.length)).drop a).length = t.length := by rw [List.length_drop, List.length_take, kp3.1]; omega
        repeat first
          | (apply WL.q; exact rfl; exact rfl; exact rfl; (first | (apply EvW.move; exact rfl)))
          | refine WC.seq ?_ | refine WC.region ?_ | refine WL.nil ?_ | refine WE.next ?_ | refine WE.out ?_
        try refine WL.wanted rfl rfl rfl ?_
        apply WL.callA ([.blk q (Value.map (some mb) :: i64 (M2).ar :: i64 (M2).ac :: Value.bool (M2).off :: ((M2).pages.map str ++ (M2).worn.map i64)).toArray 41])
        · exact rfl
        · exact rfl
        · exact fun w => Try.call14 _ w
        · (focus ((repeat (first | exact TakeL.nil | apply TakeL.cons | exact Take.head | apply Take.tail)); done))
        · exact fun w1 S1 hS1 hs1 ho1 => again_spec q (some mb) M2 (i + 2) w1 S1 hS1 k2
        rintro _ _ ⟨q', rfl, rfl⟩
        first | refine WL.app4 ?_ | refine WL.app3 ?_ | refine WL.app2 ?_ | refine WL.app1 ?_ | refine WL.app0 ?_ | skip
        refine WL.omapNil ?_
        repeat first
          | (apply WL.q; exact rfl; exact rfl; exact rfl; (first | (apply EvW.move; exact rfl) | (apply EvW.assign; exact rfl) | (apply EvW.nilPtr; exact rfl) | (apply EvW.fieldAddr0; exact rfl; exact FldC.eq) | (apply EvW.peqN; exact rfl; exact rfl; exact UndC.eq)))
          | refine WC.seq ?_ | refine WC.region ?_ | refine WL.nil ?_ | refine WE.next ?_ | refine WL.wanted rfl rfl rfl ?_
        try refine WL.wanted rfl rfl rfl ?_
        apply WL.callA ([.blk q' (Value.map (none) :: i64 (M2.again).ar :: i64 (M2.again).ac :: Value.bool (M2.again).off :: ((M2.again).pages.map str ++ (M2.again).worn.map i64)).toArray 41])
        · exact rfl
        · exact rfl
        · exact fun w => Try.call17 _ w
        · (focus ((repeat (first | exact TakeL.nil | apply TakeL.cons | exact Take.head | apply Take.tail)); done))
        · exact fun w1 S1 hS1 hs1 ho1 => down_spec q' none M2.again false w1 S1 hS1 rfl
        rintro _ _ ⟨rfl, rfl⟩
        first | refine WL.app4 ?_ | refine WL.app3 ?_ | refine WL.app2 ?_ | refine WL.app1 ?_ | refine WL.app0 ?_ | skip
        repeat first
          | (apply WL.q; exact rfl; exact rfl; exact rfl; (first | (apply EvW.move; exact rfl) | (apply EvW.nilPtr; exact rfl) | (apply EvW.fieldAddr0; exact rfl; exact FldC.eq) | (apply EvW.pickF; exact rfl; exact rfl)))
          | refine WL.wanted rfl rfl rfl ?_
        try refine WL.wanted rfl rfl rfl ?_
        apply WL.callA ([.blk q' (Value.map (none) :: i64 (M2.again).ar :: i64 (M2.again).ac :: Value.bool (M2.again).off :: ((M2.again).pages.map str ++ (M2.again).worn.map i64)).toArray 41])
        · exact rfl
        · exact rfl
        · exact fun w => Try.call26 _ w
        · (focus ((repeat (first | exact TakeL.nil | apply TakeL.cons | exact Take.head | apply Take.tail)); done))
        · exact fun w1 S1 hS1 hs1 ho1 => acts_spec q' none M2.again w1 S1 hS1
        rintro _ _ ⟨rfl, rfl⟩
        first | refine WL.app4 ?_ | refine WL.app3 ?_ | refine WL.app2 ?_ | refine WL.app1 ?_ | refine WL.app0 ?_ | skip
        rw [show i64 M2.again.ac = i64 0 from rfl]
        repeat first
          | (apply WL.q; exact rfl; exact rfl; exact rfl; (first | (apply EvW.move; exact rfl) | (apply EvW.lenS; exact rfl; exact UndC.eq) | (apply EvW.cmpF; exact rfl; exact rfl; exact rfl; omega) | (apply EvW.pickF; exact rfl; exact rfl)))
          | refine WC.seq ?_ | refine WC.region ?_ | refine WL.nil ?_ | refine WE.next ?_ | refine WC.skip ?_ | refine WC.condF rfl ?_ | refine WL.wanted rfl rfl rfl ?_
        try refine WL.wanted rfl rfl rfl ?_
        apply WL.callA ([.blk q' (Value.map (none) :: i64 (M2.again).ar :: i64 (M2.again).ac :: Value.bool (M2.again).off :: ((M2.again).pages.map str ++ (M2.again).worn.map i64)).toArray 41])
        · exact rfl
        · exact rfl
        · exact fun w => Try.call12 _ w
        · (focus ((repeat (first | exact TakeL.nil | apply TakeL.cons | exact Take.head | apply Take.tail)); done))
        · exact fun w1 S1 hS1 hs1 ho1 => read_spec q' none M2.again (i + 2) 5 a t.length w1 S1 hS1 k3
        rintro _ _ ⟨rfl, rfl⟩
        first | refine WL.app4 ?_ | refine WL.app3 ?_ | refine WL.app2 ?_ | refine WL.app1 ?_ | refine WL.app0 ?_ | skip
        rw [hrd]
        dsimp only
        generalize ((M2.again.page 5).take (a + t.length)).drop a = s at hr hsl
        repeat first
          | (apply WL.q; exact rfl; exact rfl; exact rfl; (first | (apply EvW.move; exact rfl) | (apply EvW.assign; exact rfl) | (apply EvW.extract; exact rfl; exact rfl) | (apply EvW.lenS; exact rfl; exact UndC.eq) | (apply EvW.cmpF; exact rfl; exact rfl; exact rfl; omega) | (apply EvW.pickF; exact rfl; exact rfl)))
          | refine WC.seq ?_ | refine WC.region ?_ | refine WL.nil ?_ | refine WE.next ?_ | refine WC.block ?_ | refine WC.skip ?_ | refine WC.condF rfl ?_ | refine WL.wanted rfl rfl rfl ?_
        refine WC.loopK (σ := Nat) [0, 1, 7, 11, 32, 33, 34] (fun s => [(13, i64 s)]) (fun s => [.blk q' (Value.map (none) :: i64 (M2.again).ar :: i64 (M2.again).ac :: Value.bool (M2.again).off :: ((M2.again).pages.map str ++ (M2.again).worn.map i64)).toArray 41, .omap none []]) (fun s => s ≤ t.length) (fun s => t.length - s) 0 (by (focus ((repeat (first | exact Pick.nil | (apply Pick.cons; exact rfl))); done))) (by (focus ((repeat (first | exact trivial | (refine ⟨rfl, ?_⟩))); done))) (fun _ h => h.keep (by (focus ((repeat (first | exact TakeL.nil | apply TakeL.cons | exact Take.head | apply Take.tail)); done)))) (Nat.zero_le _) (fun s hs => ?_)
        obtain ⟨k, rfl⟩ : ∃ q, q = s := ⟨s, rfl⟩
        simp only [List.cons_append, List.nil_append] at hs ⊢
        by_cases hk : (k : Int) < (t.length : Nat)
        · have hkk := hr k (by omega)
          by_cases hst : ((s.getD ((k : Nat) : Int).toNat 0).toNat : Int) = (t.getD ((k : Nat) : Int).toNat 0).toNat
          · repeat first
              | (apply WL.q; exact rfl; exact rfl; exact rfl; (first | (apply EvW.move; exact rfl) | (apply EvW.lenS; exact rfl; exact UndC.eq) | (apply EvW.cmpT; exact rfl; exact rfl; exact rfl; omega)))
              | refine WC.seq ?_ | refine WC.region ?_ | refine WL.nil ?_ | refine WE.next ?_ | refine WC.block ?_ | refine WC.skip ?_ | refine WC.condT rfl ?_
            repeat refine WC.seq ?_
            refine WC.keep (xs := [.blk q' (Value.map (none) :: i64 (M2.again).ar :: i64 (M2.again).ac :: Value.bool (M2.again).off :: ((M2.again).pages.map str ++ (M2.again).worn.map i64)).toArray 41, .omap none []]) (by (focus ((repeat (first | exact TakeL.nil | apply TakeL.cons | exact Take.head | apply Take.tail)); done))) ?_
            apply WC.par _ (fun c : Ch => [.blk q' (Value.map (none) :: i64 (M2.again).ar :: i64 (M2.again).ac :: Value.bool (M2.again).off :: ((M2.again).pages.map str ++ (M2.again).worn.map i64)).toArray 41, .omap none []]) [none, none] [none, none] [] Try.mixed
            · (focus ((repeat (first | exact Restr.nil | (apply Restr.keep; exact rfl; exact rfl) | (apply Restr.drop; exact rfl))); done))
            · intro c; exact (by (focus ((repeat (first | exact SelT.nil | apply SelT.yes | apply SelT.no)); done)))
            · exact rfl
            · decide +kernel
            · decide +kernel
            · intro c
              (apply Par.quiet _ [true, true]; exact rfl; decide +kernel; exact rfl; intro R; refine ⟨_, (by (focus ((repeat (first | exact SelT.nil | apply SelT.yes | apply SelT.no)); done))), ?_⟩;
                   (first | (apply EvW.move; exact rfl)))
              (apply Par.quiet _ [true, true]; exact rfl; decide +kernel; exact rfl; intro R; refine ⟨_, (by (focus ((repeat (first | exact SelT.nil | apply SelT.yes | apply SelT.no)); done))), ?_⟩;
                   (first | (apply EvW.move; exact rfl)))
              (apply Par.quiet _ [true, true]; exact rfl; decide +kernel; exact rfl; intro R; refine ⟨_, (by (focus ((repeat (first | exact SelT.nil | apply SelT.yes | apply SelT.no)); done))), ?_⟩;
                   (first | (apply EvW.index; exact rfl; exact rfl; exact UndC.eq; omega; omega)))
              (apply Par.quiet _ [true, true]; exact rfl; decide +kernel; exact rfl; intro R; refine ⟨_, (by (focus ((repeat (first | exact SelT.nil | apply SelT.yes | apply SelT.no)); done))), ?_⟩;
                   (first | (apply EvW.move; exact rfl)))
              (apply Par.quiet _ [true, true]; exact rfl; decide +kernel; exact rfl; intro R; refine ⟨_, (by (focus ((repeat (first | exact SelT.nil | apply SelT.yes | apply SelT.no)); done))), ?_⟩;
                   (first | (apply EvW.move; exact rfl)))
              (apply Par.quiet _ [true, true]; exact rfl; decide +kernel; exact rfl; intro R; refine ⟨_, (by (focus ((repeat (first | exact SelT.nil | apply SelT.yes | apply SelT.no)); done))), ?_⟩;
                   (first | (apply EvW.index; exact rfl; exact rfl; exact UndC.eq; omega; omega)))
              (apply Par.quiet _ [true, true]; exact rfl; decide +kernel; exact rfl; intro R; refine ⟨_, (by (focus ((repeat (first | exact SelT.nil | apply SelT.yes | apply SelT.no)); done))), ?_⟩;
                   (first | (apply EvW.cmpF; exact rfl; exact rfl; exact rfl; omega)))
              (apply Par.quiet _ [true, true]; exact rfl; decide +kernel; exact rfl; intro R; refine ⟨_, (by (focus ((repeat (first | exact SelT.nil | apply SelT.yes | apply SelT.no)); done))), ?_⟩;
                   (first | (apply EvW.move; exact rfl)))
              first
                | (apply Par.skip; exact rfl; decide +kernel; exact rfl)
                | (apply Par.quiet _ [true, true]; exact rfl; decide +kernel; exact rfl; intro R; refine ⟨_, (by (focus ((repeat (first | exact SelT.nil | apply SelT.yes | apply SelT.no)); done))), ?_⟩;
                   fail)
              first
                | (apply Par.skip; exact rfl; decide +kernel; exact rfl)
                | (apply Par.quiet _ [true, true]; exact rfl; decide +kernel; exact rfl; intro R; refine ⟨_, (by (focus ((repeat (first | exact SelT.nil | apply SelT.yes | apply SelT.no)); done))), ?_⟩;
                   fail)
              first
                | (apply Par.skip; exact rfl; decide +kernel; exact rfl)
                | (apply Par.quiet _ [true, true]; exact rfl; decide +kernel; exact rfl; intro R; refine ⟨_, (by (focus ((repeat (first | exact SelT.nil | apply SelT.yes | apply SelT.no)); done))), ?_⟩;
                   fail)
              first
                | (apply Par.skip; exact rfl; decide +kernel; exact rfl)
                | (apply Par.quiet _ [true, true]; exact rfl; decide +kernel; exact rfl; intro R; refine ⟨_, (by (focus ((repeat (first | exact SelT.nil | apply SelT.yes | apply SelT.no)); done))), ?_⟩;
                   fail)
              (apply Par.quiet _ [true, true]; exact rfl; decide +kernel; exact rfl; intro R; refine ⟨_, (by (focus ((repeat (first | exact SelT.nil | apply SelT.yes | apply SelT.no)); done))), ?_⟩;
                   (first | (apply EvW.pickF; exact rfl; exact rfl)))
              exact Par.nil
            · repeat (first | exact AllN.nil | (apply AllN.cons; (intro c x; (repeat (first | exact IndA.nil | (apply IndA.skip; decide +kernel) | apply IndA.same))))) 
            · repeat (first | exact AllN.nil | (apply AllN.cons; (intro c x; (repeat (first | exact IndT.nil | (apply IndT.skip; decide +kernel) | apply IndT.same))))) 
            · exact fun _ => rfl
            intro c
            refine ⟨_, (by (focus ((repeat (first | exact SelT.nil | apply SelT.yes | apply SelT.no)); done))), ?_⟩
            apply WE.writ
            · (focus ((repeat (first | exact Writ.nil | apply Writ.some | apply Writ.none)); done))
            repeat first
              | (apply WL.q; exact rfl; exact rfl; exact rfl; (first | (apply EvW.move; exact rfl) | (apply EvW.assign; exact rfl) | (apply EvW.arN; exact rfl; exact rfl; exact rfl; (first | (refine i64_in ?_ ?_ <;> omega) | (constructor <;> simp only [IntKind.min, IntKind.max, IntKind.signed, IntKind.bits, ↓reduceIte, Bool.false_eq_true] <;> omega)))))
              | refine WC.region ?_ | refine WL.nil ?_ | refine WE.next ?_ | refine WC.skip ?_ | refine WE.out ?_ | refine WC.condF rfl ?_
            exact WE.again (s := k) ((k + 1)) (by omega) (by (focus ((repeat (first | exact trivial | (refine ⟨rfl, ?_⟩))); done))) (fun _ h => (by (try simp only []); exact h.keep (by (focus ((repeat (first | exact TakeL.nil | apply TakeL.cons | exact Take.head | apply Take.tail)); done))))) (by (try simp only []); omega)
          · have h255 : ((t.getD ((k : Nat) : Int).toNat 0).toNat : Int) = 255 := by
              rcases hkk with h | h
              · show ((t.getD k 0).toNat : Int) = 255
                rw [h]; rfl
              · exact absurd (by show ((s.getD k 0).toNat : Int) = (t.getD k 0).toNat; rw [h]) hst
            repeat first
              | (apply WL.q; exact rfl; exact rfl; exact rfl; (first | (apply EvW.move; exact rfl) | (apply EvW.lenS; exact rfl; exact UndC.eq) | (apply EvW.cmpT; exact rfl; exact rfl; exact rfl; omega)))
              | refine WC.seq ?_ | refine WC.region ?_ | refine WL.nil ?_ | refine WE.next ?_ | refine WC.block ?_ | refine WC.skip ?_ | refine WC.condT rfl ?_
            repeat refine WC.seq ?_
            refine WC.keep (xs := [.blk q' (Value.map (none) :: i64 (M2.again).ar :: i64 (M2.again).ac :: Value.bool (M2.again).off :: ((M2.again).pages.map str ++ (M2.again).worn.map i64)).toArray 41, .omap none []]) (by (focus ((repeat (first | exact TakeL.nil | apply TakeL.cons | exact Take.head | apply Take.tail)); done))) ?_
            apply WC.par _ (fun c : Ch => [.blk q' (Value.map (none) :: i64 (M2.again).ar :: i64 (M2.again).ac :: Value.bool (M2.again).off :: ((M2.again).pages.map str ++ (M2.again).worn.map i64)).toArray 41, .omap none []]) [none, none] [none, none] [] Try.mixed
            · (focus ((repeat (first | exact Restr.nil | (apply Restr.keep; exact rfl; exact rfl) | (apply Restr.drop; exact rfl))); done))
            · intro c; exact (by (focus ((repeat (first | exact SelT.nil | apply SelT.yes | apply SelT.no)); done)))
            · exact rfl
            · decide +kernel
            · decide +kernel
            · intro c
              (apply Par.quiet _ [true, true]; exact rfl; decide +kernel; exact rfl; intro R; refine ⟨_, (by (focus ((repeat (first | exact SelT.nil | apply SelT.yes | apply SelT.no)); done))), ?_⟩;
                   (first | (apply EvW.move; exact rfl)))
              (apply Par.quiet _ [true, true]; exact rfl; decide +kernel; exact rfl; intro R; refine ⟨_, (by (focus ((repeat (first | exact SelT.nil | apply SelT.yes | apply SelT.no)); done))), ?_⟩;
                   (first | (apply EvW.move; exact rfl)))
              (apply Par.quiet _ [true, true]; exact rfl; decide +kernel; exact rfl; intro R; refine ⟨_, (by (focus ((repeat (first | exact SelT.nil | apply SelT.yes | apply SelT.no)); done))), ?_⟩;
                   (first | (apply EvW.index; exact rfl; exact rfl; exact UndC.eq; omega; omega)))
              (apply Par.quiet _ [true, true]; exact rfl; decide +kernel; exact rfl; intro R; refine ⟨_, (by (focus ((repeat (first | exact SelT.nil | apply SelT.yes | apply SelT.no)); done))), ?_⟩;
                   (first | (apply EvW.move; exact rfl)))
              (apply Par.quiet _ [true, true]; exact rfl; decide +kernel; exact rfl; intro R; refine ⟨_, (by (focus ((repeat (first | exact SelT.nil | apply SelT.yes | apply SelT.no)); done))), ?_⟩;
                   (first | (apply EvW.move; exact rfl)))
              (apply Par.quiet _ [true, true]; exact rfl; decide +kernel; exact rfl; intro R; refine ⟨_, (by (focus ((repeat (first | exact SelT.nil | apply SelT.yes | apply SelT.no)); done))), ?_⟩;
                   (first | (apply EvW.index; exact rfl; exact rfl; exact UndC.eq; omega; omega)))
              (apply Par.quiet _ [true, true]; exact rfl; decide +kernel; exact rfl; intro R; refine ⟨_, (by (focus ((repeat (first | exact SelT.nil | apply SelT.yes | apply SelT.no)); done))), ?_⟩;
                   (first | (apply EvW.cmpT; exact rfl; exact rfl; exact rfl; omega)))
              (apply Par.quiet _ [true, true]; exact rfl; decide +kernel; exact rfl; intro R; refine ⟨_, (by (focus ((repeat (first | exact SelT.nil | apply SelT.yes | apply SelT.no)); done))), ?_⟩;
                   (first | (apply EvW.move; exact rfl)))
              first
                | (apply Par.skip; exact rfl; decide +kernel; exact rfl)
                | (apply Par.quiet _ [true, true]; exact rfl; decide +kernel; exact rfl; intro R; refine ⟨_, (by (focus ((repeat (first | exact SelT.nil | apply SelT.yes | apply SelT.no)); done))), ?_⟩;
                   (first | (apply EvW.move; exact rfl)))
              first
                | (apply Par.skip; exact rfl; decide +kernel; exact rfl)
                | (apply Par.quiet _ [true, true]; exact rfl; decide +kernel; exact rfl; intro R; refine ⟨_, (by (focus ((repeat (first | exact SelT.nil | apply SelT.yes | apply SelT.no)); done))), ?_⟩;
                   (first | (apply EvW.move; exact rfl)))
              first
                | (apply Par.skip; exact rfl; decide +kernel; exact rfl)
                | (apply Par.quiet _ [true, true]; exact rfl; decide +kernel; exact rfl; intro R; refine ⟨_, (by (focus ((repeat (first | exact SelT.nil | apply SelT.yes | apply SelT.no)); done))), ?_⟩;
                   (first | (apply EvW.index; exact rfl; exact rfl; exact UndC.eq; omega; omega)))
              first
                | (apply Par.skip; exact rfl; decide +kernel; exact rfl)
                | (apply Par.quiet _ [true, true]; exact rfl; decide +kernel; exact rfl; intro R; refine ⟨_, (by (focus ((repeat (first | exact SelT.nil | apply SelT.yes | apply SelT.no)); done))), ?_⟩;
                   (first | (apply EvW.cmpF; exact rfl; exact rfl; exact rfl; omega)))
              (apply Par.quiet _ [true, true]; exact rfl; decide +kernel; exact rfl; intro R; refine ⟨_, (by (focus ((repeat (first | exact SelT.nil | apply SelT.yes | apply SelT.no)); done))), ?_⟩;
                   (first | (apply EvW.pickT; exact rfl; exact rfl)))
              exact Par.nil
            · repeat (first | exact AllN.nil | (apply AllN.cons; (intro c x; (repeat (first | exact IndA.nil | (apply IndA.skip; decide +kernel) | apply IndA.same))))) 
            · repeat (first | exact AllN.nil | (apply AllN.cons; (intro c x; (repeat (first | exact IndT.nil | (apply IndT.skip; decide +kernel) | apply IndT.same))))) 
            · exact fun _ => rfl
            intro c
            refine ⟨_, (by (focus ((repeat (first | exact SelT.nil | apply SelT.yes | apply SelT.no)); done))), ?_⟩
            apply WE.writ
            · (focus ((repeat (first | exact Writ.nil | apply Writ.some | apply Writ.none)); done))
            repeat first
              | (apply WL.q; exact rfl; exact rfl; exact rfl; (first | (apply EvW.move; exact rfl) | (apply EvW.assign; exact rfl) | (apply EvW.arN; exact rfl; exact rfl; exact rfl; (first | (refine i64_in ?_ ?_ <;> omega) | (constructor <;> simp only [IntKind.min, IntKind.max, IntKind.signed, IntKind.bits, ↓reduceIte, Bool.false_eq_true] <;> omega)))))
              | refine WC.region ?_ | refine WL.nil ?_ | refine WE.next ?_ | refine WC.skip ?_ | refine WE.out ?_ | refine WC.condF rfl ?_
            exact WE.again (s := k) ((k + 1)) (by omega) (by (focus ((repeat (first | exact trivial | (refine ⟨rfl, ?_⟩))); done))) (fun _ h => (by (try simp only []); exact h.keep (by (focus ((repeat (first | exact TakeL.nil | apply TakeL.cons | exact Take.head | apply Take.tail)); done))))) (by (try simp only []); omega)
        · repeat first
            | (apply WL.q; exact rfl; exact rfl; exact rfl; (first | (apply EvW.move; exact rfl) | (apply EvW.lenS; exact rfl; exact UndC.eq) | (apply EvW.cmpF; exact rfl; exact rfl; exact rfl; omega) | (apply EvW.arN; exact rfl; exact rfl; exact rfl; (first | (refine i64_in ?_ ?_ <;> omega) | (constructor <;> simp only [IntKind.min, IntKind.max, IntKind.signed, IntKind.bits, ↓reduceIte, Bool.false_eq_true] <;> omega)))))
            | refine WC.seq ?_ | refine WC.region ?_ | refine WL.nil ?_ | refine WE.next ?_ | refine WC.exit ?_ | refine WE.pass ?_ | refine WE.hit ?_ | refine WE.out ?_ | refine WC.condF rfl ?_
          exact WE.again (s := (i, q, m)) ((i + 1, q', M2.again)) ⟨by simp only []; omega, by simp only []; omega, k3, rfl, kp3⟩ (by (focus ((repeat (first | exact trivial | (refine ⟨rfl, ?_⟩))); done))) (fun _ h => (by (try simp only []); exact h.keep (by (focus ((repeat (first | exact TakeL.nil | apply TakeL.cons | exact Take.head | apply Take.tail)); done))))) (by (try simp only []); omega)
      · obtain ⟨M2, hM2⟩ : ∃ M2 : Mem, { m with ar := 0 } = M2 := ⟨_, rfl⟩
        have k2 : M2.wf (i + 2) := by rw [← hM2]; exact km.le (by omega)
        have kp2 : Kept t a (M2.page 5) := by rw [← hM2]; exact hK
        try refine WL.wanted rfl rfl rfl ?_
        (apply WL.buildSlice; exact rfl; exact UndC.eq; exact SzC.eq; exact ZvC.eq; exact rfl; exact rfl; exact rfl; ((focus ((repeat (first | exact Flat.nil | (apply Flat.one; (first | exact rfl | assumption)) | (apply Flat.cons; exact rfl; exact rfl))); done))); exact rfl; exact rfl; intro c3)
        try refine WL.wanted rfl rfl rfl ?_
        apply WL.callA ([.blk q (Value.map (some mb) :: i64 ({ m with ar := 0 }).ar :: i64 ({ m with ar := 0 }).ac :: Value.bool ({ m with ar := 0 }).off :: (({ m with ar := 0 }).pages.map str ++ ({ m with ar := 0 }).worn.map i64)).toArray 41])
        · exact rfl
        · exact rfl
        · exact fun w => Try.call11 _ w
        · (focus ((repeat (first | exact TakeL.nil | apply TakeL.cons | exact Take.head | apply Take.tail)); done))
        · exact fun w1 S1 hS1 hs1 ho1 => burn_bad q (some mb) { m with ar := 0 } (i + 1) pg pos _ [[122, 122, 122, 122]] [122, 122, 122, 122] w1 S1 hS1 ((ho1 _ _ .head).blkRow rfl (fun k u h => by simpa using h) (by simp)) (by simp) rfl (by decide) km hbad
        rintro _ _ ⟨rfl, rfl⟩
        first | refine WL.app4 ?_ | refine WL.app3 ?_ | refine WL.app2 ?_ | refine WL.app1 ?_ | refine WL.app0 ?_ | skip
        rw [hM2]
        have k3 := again_wf k2
        have kp3 : Kept t a (M2.again.page 5) := kp2
        have hr := kept_read kp3 (by omega)
        have hrd : M2.again.read 5 a t.length = (((M2.again.page 5).take (a + t.length)).drop a, 0) := by
          rw [read_ok (place_ok rfl (by decide) (by omega)) (by omega) (by omega), show ((a : Int) + t.length).toNat = a + t.length by omega]; rfl
        have hsl : (((M2.again.page 5).take (a + t.length)).drop a).length = t.length := by rw [List.length_drop, List.length_take, kp3.1]; omega
        repeat first
          | (apply WL.q; exact rfl; exact rfl; exact rfl; (first | (apply EvW.move; exact rfl)))
          | refine WC.seq ?_ | refine WC.region ?_ | refine WL.nil ?_ | refine WE.next ?_ | refine WE.out ?_
        try refine WL.wanted rfl rfl rfl ?_
        apply WL.callA ([.blk q (Value.map (some mb) :: i64 (M2).ar :: i64 (M2).ac :: Value.bool (M2).off :: ((M2).pages.map str ++ (M2).worn.map i64)).toArray 41])
        · exact rfl
        · exact rfl
        · exact fun w => Try.call14 _ w
        · (focus ((repeat (first | exact TakeL.nil | apply TakeL.cons | exact Take.head | apply Take.tail)); done))
        · exact fun w1 S1 hS1 hs1 ho1 => again_spec q (some mb) M2 (i + 2) w1 S1 hS1 k2
        rintro _ _ ⟨q', rfl, rfl⟩
        first | refine WL.app4 ?_ | refine WL.app3 ?_ | refine WL.app2 ?_ | refine WL.app1 ?_ | refine WL.app0 ?_ | skip
        refine WL.omapNil ?_
        repeat first
          | (apply WL.q; exact rfl; exact rfl; exact rfl; (first | (apply EvW.move; exact rfl) | (apply EvW.assign; exact rfl) | (apply EvW.nilPtr; exact rfl) | (apply EvW.fieldAddr0; exact rfl; exact FldC.eq) | (apply EvW.peqN; exact rfl; exact rfl; exact UndC.eq)))
          | refine WC.seq ?_ | refine WC.region ?_ | refine WL.nil ?_ | refine WE.next ?_ | refine WL.wanted rfl rfl rfl ?_
        try refine WL.wanted rfl rfl rfl ?_
        apply WL.callA ([.blk q' (Value.map (none) :: i64 (M2.again).ar :: i64 (M2.again).ac :: Value.bool (M2.again).off :: ((M2.again).pages.map str ++ (M2.again).worn.map i64)).toArray 41])
        · exact rfl
        · exact rfl
        · exact fun w => Try.call17 _ w
        · (focus ((repeat (first | exact TakeL.nil | apply TakeL.cons | exact Take.head | apply Take.tail)); done))
        · exact fun w1 S1 hS1 hs1 ho1 => down_spec q' none M2.again false w1 S1 hS1 rfl
        rintro _ _ ⟨rfl, rfl⟩
        first | refine WL.app4 ?_ | refine WL.app3 ?_ | refine WL.app2 ?_ | refine WL.app1 ?_ | refine WL.app0 ?_ | skip
        repeat first
          | (apply WL.q; exact rfl; exact rfl; exact rfl; (first | (apply EvW.move; exact rfl) | (apply EvW.nilPtr; exact rfl) | (apply EvW.fieldAddr0; exact rfl; exact FldC.eq) | (apply EvW.pickF; exact rfl; exact rfl)))
          | refine WL.wanted rfl rfl rfl ?_
        try refine WL.wanted rfl rfl rfl ?_
        apply WL.callA ([.blk q' (Value.map (none) :: i64 (M2.again).ar :: i64 (M2.again).ac :: Value.bool (M2.again).off :: ((M2.again).pages.map str ++ (M2.again).worn.map i64)).toArray 41])
        · exact rfl
        · exact rfl
        · exact fun w => Try.call26 _ w
        · (focus ((repeat (first | exact TakeL.nil | apply TakeL.cons | exact Take.head | apply Take.tail)); done))
        · exact fun w1 S1 hS1 hs1 ho1 => acts_spec q' none M2.again w1 S1 hS1
        rintro _ _ ⟨rfl, rfl⟩
        first | refine WL.app4 ?_ | refine WL.app3 ?_ | refine WL.app2 ?_ | refine WL.app1 ?_ | refine WL.app0 ?_ | skip
        rw [show i64 M2.again.ac = i64 0 from rfl]
        repeat first
          | (apply WL.q; exact rfl; exact rfl; exact rfl; (first | (apply EvW.move; exact rfl) | (apply EvW.lenS; exact rfl; exact UndC.eq) | (apply EvW.cmpF; exact rfl; exact rfl; exact rfl; omega) | (apply EvW.pickF; exact rfl; exact rfl)))
          | refine WC.seq ?_ | refine WC.region ?_ | refine WL.nil ?_ | refine WE.next ?_ | refine WC.skip ?_ | refine WC.condF rfl ?_ | refine WL.wanted rfl rfl rfl ?_
        try refine WL.wanted rfl rfl rfl ?_
        apply WL.callA ([.blk q' (Value.map (none) :: i64 (M2.again).ar :: i64 (M2.again).ac :: Value.bool (M2.again).off :: ((M2.again).pages.map str ++ (M2.again).worn.map i64)).toArray 41])
        · exact rfl
        · exact rfl
        · exact fun w => Try.call12 _ w
        · (focus ((repeat (first | exact TakeL.nil | apply TakeL.cons | exact Take.head | apply Take.tail)); done))
        · exact fun w1 S1 hS1 hs1 ho1 => read_spec q' none M2.again (i + 2) 5 a t.length w1 S1 hS1 k3
        rintro _ _ ⟨rfl, rfl⟩
        first | refine WL.app4 ?_ | refine WL.app3 ?_ | refine WL.app2 ?_ | refine WL.app1 ?_ | refine WL.app0 ?_ | skip
        rw [hrd]
        dsimp only
        generalize ((M2.again.page 5).take (a + t.length)).drop a = s at hr hsl
        repeat first
          | (apply WL.q; exact rfl; exact rfl; exact rfl; (first | (apply EvW.move; exact rfl) | (apply EvW.assign; exact rfl) | (apply EvW.extract; exact rfl; exact rfl) | (apply EvW.lenS; exact rfl; exact UndC.eq) | (apply EvW.cmpF; exact rfl; exact rfl; exact rfl; omega) | (apply EvW.pickF; exact rfl; exact rfl)))
          | refine WC.seq ?_ | refine WC.region ?_ | refine WL.nil ?_ | refine WE.next ?_ | refine WC.block ?_ | refine WC.skip ?_ | refine WC.condF rfl ?_ | refine WL.wanted rfl rfl rfl ?_
        refine WC.loopK (σ := Nat) [0, 1, 7, 11, 32, 33, 34] (fun s => [(13, i64 s)]) (fun s => [.blk q' (Value.map (none) :: i64 (M2.again).ar :: i64 (M2.again).ac :: Value.bool (M2.again).off :: ((M2.again).pages.map str ++ (M2.again).worn.map i64)).toArray 41, .omap none []]) (fun s => s ≤ t.length) (fun s => t.length - s) 0 (by (focus ((repeat (first | exact Pick.nil | (apply Pick.cons; exact rfl))); done))) (by (focus ((repeat (first | exact trivial | (refine ⟨rfl, ?_⟩))); done))) (fun _ h => h.keep (by (focus ((repeat (first | exact TakeL.nil | apply TakeL.cons | exact Take.head | apply Take.tail)); done)))) (Nat.zero_le _) (fun s hs => ?_)
        obtain ⟨k, rfl⟩ : ∃ q, q = s := ⟨s, rfl⟩
        simp only [List.cons_append, List.nil_append] at hs ⊢
        by_cases hk : (k : Int) < (t.length : Nat)
        · have hkk := hr k (by omega)
          by_cases hst : ((s.getD ((k : Nat) : Int).toNat 0).toNat : Int) = (t.getD ((k : Nat) : Int).toNat 0).toNat
          · repeat first
              | (apply WL.q; exact rfl; exact rfl; exact rfl; (first | (apply EvW.move; exact rfl) | (apply EvW.lenS; exact rfl; exact UndC.eq) | (apply EvW.cmpT; exact rfl; exact rfl; exact rfl; omega)))
              | refine WC.seq ?_ | refine WC.region ?_ | refine WL.nil ?_ | refine WE.next ?_ | refine WC.block ?_ | refine WC.skip ?_ | refine WC.condT rfl ?_
            repeat refine WC.seq ?_
            refine WC.keep (xs := [.blk q' (Value.map (none) :: i64 (M2.again).ar :: i64 (M2.again).ac :: Value.bool (M2.again).off :: ((M2.again).pages.map str ++ (M2.again).worn.map i64)).toArray 41, .omap none []]) (by (focus ((repeat (first | exact TakeL.nil | apply TakeL.cons | exact Take.head | apply Take.tail)); done))) ?_
            apply WC.par _ (fun c : Ch => [.blk q' (Value.map (none) :: i64 (M2.again).ar :: i64 (M2.again).ac :: Value.bool (M2.again).off :: ((M2.again).pages.map str ++ (M2.again).worn.map i64)).toArray 41, .omap none []]) [none, none] [none, none] [] Try.mixed
            · (focus ((repeat (first | exact Restr.nil | (apply Restr.keep; exact rfl; exact rfl) | (apply Restr.drop; exact rfl))); done))
            · intro c; exact (by (focus ((repeat (first | exact SelT.nil | apply SelT.yes | apply SelT.no)); done)))
            · exact rfl
            · decide +kernel
            · decide +kernel
            · intro c
              (apply Par.quiet _ [true, true]; exact rfl; decide +kernel; exact rfl; intro R; refine ⟨_, (by (focus ((repeat (first | exact SelT.nil | apply SelT.yes | apply SelT.no)); done))), ?_⟩;
                   (first | (apply EvW.move; exact rfl)))
              (apply Par.quiet _ [true, true]; exact rfl; decide +kernel; exact rfl; intro R; refine ⟨_, (by (focus ((repeat (first | exact SelT.nil | apply SelT.yes | apply SelT.no)); done))), ?_⟩;
                   (first | (apply EvW.move; exact rfl)))
              (apply Par.quiet _ [true, true]; exact rfl; decide +kernel; exact rfl; intro R; refine ⟨_, (by (focus ((repeat (first | exact SelT.nil | apply SelT.yes | apply SelT.no)); done))), ?_⟩;
                   (first | (apply EvW.index; exact rfl; exact rfl; exact UndC.eq; omega; omega)))
              (apply Par.quiet _ [true, true]; exact rfl; decide +kernel; exact rfl; intro R; refine ⟨_, (by (focus ((repeat (first | exact SelT.nil | apply SelT.yes | apply SelT.no)); done))), ?_⟩;
                   (first | (apply EvW.move; exact rfl)))
              (apply Par.quiet _ [true, true]; exact rfl; decide +kernel; exact rfl; intro R; refine ⟨_, (by (focus ((repeat (first | exact SelT.nil | apply SelT.yes | apply SelT.no)); done))), ?_⟩;
                   (first | (apply EvW.move; exact rfl)))
              (apply Par.quiet _ [true, true]; exact rfl; decide +kernel; exact rfl; intro R; refine ⟨_, (by (focus ((repeat (first | exact SelT.nil | apply SelT.yes | apply SelT.no)); done))), ?_⟩;
                   (first | (apply EvW.index; exact rfl; exact rfl; exact UndC.eq; omega; omega)))
              (apply Par.quiet _ [true, true]; exact rfl; decide +kernel; exact rfl; intro R; refine ⟨_, (by (focus ((repeat (first | exact SelT.nil | apply SelT.yes | apply SelT.no)); done))), ?_⟩;
                   (first | (apply EvW.cmpF; exact rfl; exact rfl; exact rfl; omega)))
              (apply Par.quiet _ [true, true]; exact rfl; decide +kernel; exact rfl; intro R; refine ⟨_, (by (focus ((repeat (first | exact SelT.nil | apply SelT.yes | apply SelT.no)); done))), ?_⟩;
                   (first | (apply EvW.move; exact rfl)))
              first
                | (apply Par.skip; exact rfl; decide +kernel; exact rfl)
                | (apply Par.quiet _ [true, true]; exact rfl; decide +kernel; exact rfl; intro R; refine ⟨_, (by (focus ((repeat (first | exact SelT.nil | apply SelT.yes | apply SelT.no)); done))), ?_⟩;
                   fail)
              first
                | (apply Par.skip; exact rfl; decide +kernel; exact rfl)
                | (apply Par.quiet _ [true, true]; exact rfl; decide +kernel; exact rfl; intro R; refine ⟨_, (by (focus ((repeat (first | exact SelT.nil | apply SelT.yes | apply SelT.no)); done))), ?_⟩;
                   fail)
              first
                | (apply Par.skip; exact rfl; decide +kernel; exact rfl)
                | (apply Par.quiet _ [true, true]; exact rfl; decide +kernel; exact rfl; intro R; refine ⟨_, (by (focus ((repeat (first | exact SelT.nil | apply SelT.yes | apply SelT.no)); done))), ?_⟩;
                   fail)
              first
                | (apply Par.skip; exact rfl; decide +kernel; exact rfl)
                | (apply Par.quiet _ [true, true]; exact rfl; decide +kernel; exact rfl; intro R; refine ⟨_, (by (focus ((repeat (first | exact SelT.nil | apply SelT.yes | apply SelT.no)); done))), ?_⟩;
                   fail)
              (apply Par.quiet _ [true, true]; exact rfl; decide +kernel; exact rfl; intro R; refine ⟨_, (by (focus ((repeat (first | exact SelT.nil | apply SelT.yes | apply SelT.no)); done))), ?_⟩;
                   (first | (apply EvW.pickF; exact rfl; exact rfl)))
              exact Par.nil
            · repeat (first | exact AllN.nil | (apply AllN.cons; (intro c x; (repeat (first | exact IndA.nil | (apply IndA.skip; decide +kernel) | apply IndA.same))))) 
            · repeat (first | exact AllN.nil | (apply AllN.cons; (intro c x; (repeat (first | exact IndT.nil | (apply IndT.skip; decide +kernel) | apply IndT.same))))) 
            · exact fun _ => rfl
            intro c
            refine ⟨_, (by (focus ((repeat (first | exact SelT.nil | apply SelT.yes | apply SelT.no)); done))), ?_⟩
            apply WE.writ
            · (focus ((repeat (first | exact Writ.nil | apply Writ.some | apply Writ.none)); done))
            repeat first
              | (apply WL.q; exact rfl; exact rfl; exact rfl; (first | (apply EvW.move; exact rfl) | (apply EvW.assign; exact rfl) | (apply EvW.arN; exact rfl; exact rfl; exact rfl; (first | (refine i64_in ?_ ?_ <;> omega) | (constructor <;> simp only [IntKind.min, IntKind.max, IntKind.signed, IntKind.bits, ↓reduceIte, Bool.false_eq_true] <;> omega)))))
              | refine WC.region ?_ | refine WL.nil ?_ | refine WE.next ?_ | refine WC.skip ?_ | refine WE.out ?_ | refine WC.condF rfl ?_
            exact WE.again (s := k) ((k + 1)) (by omega) (by (focus ((repeat (first | exact trivial | (refine ⟨rfl, ?_⟩))); done))) (fun _ h => (by (try simp only []); exact h.keep (by (focus ((repeat (first | exact TakeL.nil | apply TakeL.cons | exact Take.head | apply Take.tail)); done))))) (by (try simp only []); omega)
          · have h255 : ((t.getD ((k : Nat) : Int).toNat 0).toNat : Int) = 255 := by
              rcases hkk with h | h
              · show ((t.getD k 0).toNat : Int) = 255
                rw [h]; rfl
              · exact absurd (by show ((s.getD k 0).toNat : Int) = (t.getD k 0).toNat; rw [h]) hst
            repeat first
              | (apply WL.q; exact rfl; exact rfl; exact rfl; (first | (apply EvW.move; exact rfl) | (apply EvW.lenS; exact rfl; exact UndC.eq) | (apply EvW.cmpT; exact rfl; exact rfl; exact rfl; omega)))
              | refine WC.seq ?_ | refine WC.region ?_ | refine WL.nil ?_ | refine WE.next ?_ | refine WC.block ?_ | refine WC.skip ?_ | refine WC.condT rfl ?_
            repeat refine WC.seq ?_
            refine WC.keep (xs := [.blk q' (Value.map (none) :: i64 (M2.again).ar :: i64 (M2.again).ac :: Value.bool (M2.again).off :: ((M2.again).pages.map str ++ (M2.again).worn.map i64)).toArray 41, .omap none []]) (by (focus ((repeat (first | exact TakeL.nil | apply TakeL.cons | exact Take.head | apply Take.tail)); done))) ?_
            apply WC.par _ (fun c : Ch => [.blk q' (Value.map (none) :: i64 (M2.again).ar :: i64 (M2.again).ac :: Value.bool (M2.again).off :: ((M2.again).pages.map str ++ (M2.again).worn.map i64)).toArray 41, .omap none []]) [none, none] [none, none] [] Try.mixed
            · (focus ((repeat (first | exact Restr.nil | (apply Restr.keep; exact rfl; exact rfl) | (apply Restr.drop; exact rfl))); done))
            · intro c; exact (by (focus ((repeat (first | exact SelT.nil | apply SelT.yes | apply SelT.no)); done)))
            · exact rfl
            · decide +kernel
            · decide +kernel
            · intro c
              (apply Par.quiet _ [true, true]; exact rfl; decide +kernel; exact rfl; intro R; refine ⟨_, (by (focus ((repeat (first | exact SelT.nil | apply SelT.yes | apply SelT.no)); done))), ?_⟩;
                   (first | (apply EvW.move; exact rfl)))
              (apply Par.quiet _ [true, true]; exact rfl; decide +kernel; exact rfl; intro R; refine ⟨_, (by (focus ((repeat (first | exact SelT.nil | apply SelT.yes | apply SelT.no)); done))), ?_⟩;
                   (first | (apply EvW.move; exact rfl)))
              (apply Par.quiet _ [true, true]; exact rfl; decide +kernel; exact rfl; intro R; refine ⟨_, (by (focus ((repeat (first | exact SelT.nil | apply SelT.yes | apply SelT.no)); done))), ?_⟩;
                   (first | (apply EvW.index; exact rfl; exact rfl; exact UndC.eq; omega; omega)))
              (apply Par.quiet _ [true, true]; exact rfl; decide +kernel; exact rfl; intro R; refine ⟨_, (by (focus ((repeat (first | exact SelT.nil | apply SelT.yes | apply SelT.no)); done))), ?_⟩;
                   (first | (apply EvW.move; exact rfl)))
              (apply Par.quiet _ [true, true]; exact rfl; decide +kernel; exact rfl; intro R; refine ⟨_, (by (focus ((repeat (first | exact SelT.nil | apply SelT.yes | apply SelT.no)); done))), ?_⟩;
                   (first | (apply EvW.move; exact rfl)))
              (apply Par.quiet _ [true, true]; exact rfl; decide +kernel; exact rfl; intro R; refine ⟨_, (by (focus ((repeat (first | exact SelT.nil | apply SelT.yes | apply SelT.no)); done))), ?_⟩;
                   (first | (apply EvW.index; exact rfl; exact rfl; exact UndC.eq; omega; omega)))
              (apply Par.quiet _ [true, true]; exact rfl; decide +kernel; exact rfl; intro R; refine ⟨_, (by (focus ((repeat (first | exact SelT.nil | apply SelT.yes | apply SelT.no)); done))), ?_⟩;
                   (first | (apply EvW.cmpT; exact rfl; exact rfl; exact rfl; omega)))
              (apply Par.quiet _ [true, true]; exact rfl; decide +kernel; exact rfl; intro R; refine ⟨_, (by (focus ((repeat (first | exact SelT.nil | apply SelT.yes | apply SelT.no)); done))), ?_⟩;
                   (first | (apply EvW.move; exact rfl)))
              first
                | (apply Par.skip; exact rfl; decide +kernel; exact rfl)
                | (apply Par.quiet _ [true, true]; exact rfl; decide +kernel; exact rfl; intro R; refine ⟨_, (by (focus ((repeat (first | exact SelT.nil | apply SelT.yes | apply SelT.no)); done))), ?_⟩;
                   (first | (apply EvW.move; exact rfl)))
              first
                | (apply Par.skip; exact rfl; decide +kernel; exact rfl)
                | (apply Par.quiet _ [true, true]; exact rfl; decide +kernel; exact rfl; intro R; refine ⟨_, (by (focus ((repeat (first | exact SelT.nil | apply SelT.yes | apply SelT.no)); done))), ?_⟩;
                   (first | (apply EvW.move; exact rfl)))
              first
                | (apply Par.skip; exact rfl; decide +kernel; exact rfl)
                | (apply Par.quiet _ [true, true]; exact rfl; decide +kernel; exact rfl; intro R; refine ⟨_, (by (focus ((repeat (first | exact SelT.nil | apply SelT.yes | apply SelT.no)); done))), ?_⟩;
                   (first | (apply EvW.index; exact rfl; exact rfl; exact UndC.eq; omega; omega)))
              first
                | (apply Par.skip; exact rfl; decide +kernel; exact rfl)
                | (apply Par.quiet _ [true, true]; exact rfl; decide +kernel; exact rfl; intro R; refine ⟨_, (by (focus ((repeat (first | exact SelT.nil | apply SelT.yes | apply SelT.no)); done))), ?_⟩;
                   (first | (apply EvW.cmpF; exact rfl; exact rfl; exact rfl; omega)))
              (apply Par.quiet _ [true, true]; exact rfl; decide +kernel; exact rfl; intro R; refine ⟨_, (by (focus ((repeat (first | exact SelT.nil | apply SelT.yes | apply SelT.no)); done))), ?_⟩;
                   (first | (apply EvW.pickT; exact rfl; exact rfl)))
              exact Par.nil
            · repeat (first | exact AllN.nil | (apply AllN.cons; (intro c x; (repeat (first | exact IndA.nil | (apply IndA.skip; decide +kernel) | apply IndA.same))))) 
            · repeat (first | exact AllN.nil | (apply AllN.cons; (intro c x; (repeat (first | exact IndT.nil | (apply IndT.skip; decide +kernel) | apply IndT.same))))) 
            · exact fun _ => rfl
            intro c
            refine ⟨_, (by (focus ((repeat (first | exact SelT.nil | apply SelT.yes | apply SelT.no)); done))), ?_⟩
            apply WE.writ
            · (focus ((repeat (first | exact Writ.nil | apply Writ.some | apply Writ.none)); done))
            repeat first
              | (apply WL.q; exact rfl; exact rfl; exact rfl; (first | (apply EvW.move; exact rfl) | (apply EvW.assign; exact rfl) | (apply EvW.arN; exact rfl; exact rfl; exact rfl; (first | (refine i64_in ?_ ?_ <;> omega) | (constructor <;> simp only [IntKind.min, IntKind.max, IntKind.signed, IntKind.bits, ↓reduceIte, Bool.false_eq_true] <;> omega)))))
              | refine WC.region ?_ | refine WL.nil ?_ | refine WE.next ?_ | refine WC.skip ?_ | refine WE.out ?_ | refine WC.condF rfl ?_
            exact WE.again (s := k) ((k + 1)) (by omega) (by (focus ((repeat (first | exact trivial | (refine ⟨rfl, ?_⟩))); done))) (fun _ h => (by (try simp only []); exact h.keep (by (focus ((repeat (first | exact TakeL.nil | apply TakeL.cons | exact Take.head | apply Take.tail)); done))))) (by (try simp only []); omega)
        · repeat first
            | (apply WL.q; exact rfl; exact rfl; exact rfl; (first | (apply EvW.move; exact rfl) | (apply EvW.lenS; exact rfl; exact UndC.eq) | (apply EvW.cmpF; exact rfl; exact rfl; exact rfl; omega) | (apply EvW.arN; exact rfl; exact rfl; exact rfl; (first | (refine i64_in ?_ ?_ <;> omega) | (constructor <;> simp only [IntKind.min, IntKind.max, IntKind.signed, IntKind.bits, ↓reduceIte, Bool.false_eq_true] <;> omega)))))
            | refine WC.seq ?_ | refine WC.region ?_ | refine WL.nil ?_ | refine WE.next ?_ | refine WC.exit ?_ | refine WE.pass ?_ | refine WE.hit ?_ | refine WE.out ?_ | refine WC.condF rfl ?_
          exact WE.again (s := (i, q, m)) ((i + 1, q', M2.again)) ⟨by simp only []; omega, by simp only []; omega, k3, rfl, kp3⟩ (by (focus ((repeat (first | exact trivial | (refine ⟨rfl, ?_⟩))); done))) (fun _ h => (by (try simp only []); exact h.keep (by (focus ((repeat (first | exact TakeL.nil | apply TakeL.cons | exact Take.head | apply Take.tail)); done))))) (by (try simp only []); omega)
  · skip
    have hpe : m.place 5 0 = 0 := place_ok hoff (by decide) (by decide)
    obtain ⟨E, hE⟩ : ∃ E, (m.erased 5 (cutF none 4096).1).act none = E := ⟨_, rfl⟩
    have kE : E.wf (i + 2) := by rw [← hE]; exact erase_wf (ct := none) hm (by decide)
    have bE : E.bare 5 = 0 := by
      unfold Mem.bare
      rw [if_neg (by decide), ← hE]
      show ((bareL ((m.erased 5 4096).page 5) : Nat) : Int) = 0
      rw [erased_page (hm.page (p := 5) (by decide) (by decide)).1, if_pos rfl, List.drop_of_length_le (by rw [(hm.page (p := 5) (by decide) (by decide)).2]; decide), List.append_nil, bareL_bare]
      rfl
    repeat first
      | (apply WL.q; exact rfl; exact rfl; exact rfl; (first | (apply EvW.move; exact rfl) | (apply EvW.cmpF; exact rfl; exact rfl; exact rfl; omega)))
      | refine WC.seq ?_ | refine WC.region ?_ | refine WL.nil ?_ | refine WE.next ?_ | refine WC.exit ?_ | refine WE.pass ?_ | refine WE.hit ?_ | refine WC.condF rfl ?_
    try refine WL.wanted rfl rfl rfl ?_
    apply WL.callA ([.blk q (Value.map (none) :: i64 (m).ar :: i64 (m).ac :: Value.bool (m).off :: ((m).pages.map str ++ (m).worn.map i64)).toArray 41, .omap none []])
    · exact rfl
    · exact rfl
    · exact fun w => Try.call15 _ w
    · (focus ((repeat (first | exact TakeL.nil | apply TakeL.cons | exact Take.head | apply Take.tail)); done))
    · exact fun w1 S1 hS1 hs1 ho1 => erase_spec q none m (i + 1) [] 5 none w1 S1 hS1 hpe hm (by omega) (fun _ => rfl) rfl
    rintro _ _ ⟨rfl, rfl⟩
    first | refine WL.app4 ?_ | refine WL.app3 ?_ | refine WL.app2 ?_ | refine WL.app1 ?_ | refine WL.app0 ?_ | skip
    rw [hE]
    dsimp only [cutF]
    repeat first
      | (apply WL.q; exact rfl; exact rfl; exact rfl; (first | (apply EvW.move; exact rfl) | (apply EvW.cmpT; exact rfl; exact rfl; exact rfl; omega)))
      | refine WL.wanted rfl rfl rfl ?_
    try refine WL.wanted rfl rfl rfl ?_
    apply WL.callA ([.blk q (Value.map (none) :: i64 (E).ar :: i64 (E).ac :: Value.bool (E).off :: ((E).pages.map str ++ (E).worn.map i64)).toArray 41])
    · exact rfl
    · exact rfl
    · exact fun w => Try.call13 _ w
    · (focus ((repeat (first | exact TakeL.nil | apply TakeL.cons | exact Take.head | apply Take.tail)); done))
    · exact fun w1 S1 hS1 hs1 ho1 => bareOf_spec q none E (i + 2) 5 w1 S1 hS1 kE
    rintro _ _ ⟨rfl, rfl⟩
    first | refine WL.app4 ?_ | refine WL.app3 ?_ | refine WL.app2 ?_ | refine WL.app1 ?_ | refine WL.app0 ?_ | skip
    rw [bE]
    repeat first
      | (apply WL.q; exact rfl; exact rfl; exact rfl; (first | (apply EvW.assign; exact rfl) | (apply EvW.cmpT; exact rfl; exact rfl; exact rfl; omega) | (apply EvW.pickT; exact rfl; exact rfl)))
      | refine WL.nil ?_ | refine WE.next ?_ | refine WC.ret ?_ | refine WL.wanted rfl rfl rfl ?_
    refine WE.bare ?_
    refine WE.ret1 rfl rfl ?_
    rfl
end Go.Proofs.Ytakffjjnogpolaa
