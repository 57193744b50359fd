/- Statuses and orders as the document has them. -/
import Derived.Test.YtdnpofigagdabaaTeleI
namespace Go.Proofs.Ytdnpofigagdabaa
open Go.RowKit Go.BK

theorem be1 (x : Int) : be 1 x = [bytOf x] := by simp [be]
theorem rright_spec (v : Value) (l : List Int) (n m : Int) (w : World) (S : BSet) (hS : (sepL []).sat S w) (hx : Sees w S (.row 1 v l.length (l.map i64))) (hl : l.length ≤ 17592186044416) :
    Tri Try.prog 31 #[v, i64 n, i64 m] w S fun u A => u = .bool (okF l n m) ∧ A = [] := by
  refine Tri.enter (l := [v, i64 n, i64 m]) Try.func31 rfl Try.ntmps31 rfl [(0, v), (1, i64 n), (2, i64 m)] (subA rfl) hS ?_
  repeat first
    | (apply WL.q; exact rfl; exact rfl; exact rfl; (first | (apply EvW.move; exact rfl) | (apply EvW.assign; exact rfl) | (apply EvW.lenRow; exact rfl; exact UndC.eq; assumption)))
    | refine WC.seq ?_ | refine WC.region ?_ | refine WL.nil ?_ | refine WE.next ?_ | refine WC.block ?_
  refine WC.loopK (σ := Nat) [0, 1, 2, 9, 10] (fun s => [(11, i64 s)]) (fun s => []) (fun s => s ≤ l.length ∧ (l.take s).all (inTo m) = true) (fun s => l.length - s) 0 (by (focus ((repeat (first | exact Pick.nil | (apply Pick.cons; exact rfl))); done))) (by (focus ((repeat (first | exact trivial | (refine ⟨rfl, ?_⟩))); done))) (fun _ h => h.keep (by (focus ((repeat (first | exact TakeL.nil | apply TakeL.cons | exact Take.head | apply Take.tail)); done)))) ⟨Nat.zero_le _, rfl⟩ (fun s hs => ?_)
  obtain ⟨k, rfl⟩ : ∃ q, q = s := ⟨s, rfl⟩
  simp only [List.cons_append, List.nil_append] at hs ⊢
  obtain ⟨hs, hok⟩ := hs
  by_cases hlt : (k : Int) < l.length
  · have hin := getD_in l 0 k (by omega)
    have hnext := all_take (inTo m) l 0 k (by omega)
    rw [hok, Bool.true_and] at hnext
    by_cases h0 : l.getD ((k : Nat) : Int).toNat 0 < 0
    · have hbad : okF l n m = false := by
        unfold okF
        rw [all_bad hin (by unfold inTo; rw [decide_eq_false (show ¬ 0 ≤ l.getD k 0 from by have h0' : l.getD k 0 < 0 := h0; omega), Bool.false_and]), Bool.and_false]
      repeat first
        | (apply WL.q; exact rfl; exact rfl; exact rfl; (first | (apply EvW.move; exact rfl) | (apply EvW.assign; exact rfl) | (apply EvW.cmpT; exact rfl; exact rfl; exact rfl; omega) | (apply EvW.pickT; exact rfl; exact rfl) | (apply EvW.idxRow; exact rfl; exact rfl; exact UndC.eq; exact SzC.eq; assumption; omega; omega) | (apply EvW.ldInt; exact rfl; exact ScalC.eq; assumption; omega)))
        | refine WC.seq ?_ | refine WC.region ?_ | refine WL.nil ?_ | refine WE.next ?_ | refine WC.block ?_ | refine WC.skip ?_ | refine WC.condT rfl ?_ | refine WC.ret ?_ | refine WE.passRet ?_ | refine WE.outRet ?_ | refine WL.unwanted rfl rfl rfl rfl ?_
      refine WE.ret1 rfl rfl ?_
      exact ⟨by rw [hbad], rfl⟩
    · by_cases hm : l.getD ((k : Nat) : Int).toNat 0 ≤ m
      · repeat first
          | (apply WL.q; exact rfl; exact rfl; exact rfl; (first | (apply EvW.move; exact rfl) | (apply EvW.assign; exact rfl) | (apply EvW.cmpT; exact rfl; exact rfl; exact rfl; omega) | (apply EvW.cmpF; exact rfl; exact rfl; exact rfl; omega) | (apply EvW.arN; exact rfl; exact rfl; exact rfl; refine i64_in ?_ ?_ <;> omega) | (apply EvW.pickF; exact rfl; exact rfl) | (apply EvW.idxRow; exact rfl; exact rfl; exact UndC.eq; exact SzC.eq; assumption; omega; omega) | (apply EvW.ldInt; exact rfl; exact ScalC.eq; assumption; omega)))
          | refine WC.seq ?_ | refine WC.region ?_ | refine WL.nil ?_ | refine WE.next ?_ | refine WC.block ?_ | refine WC.skip ?_ | refine WE.out ?_ | refine WC.condT rfl ?_ | refine WC.condF rfl ?_ | refine WL.wanted rfl rfl rfl ?_
        have hgo : (l.take (k + 1)).all (inTo m) = true := by
          rw [hnext]
          unfold inTo
          rw [decide_eq_true (show 0 ≤ l.getD k 0 from by have h0' : ¬ l.getD k 0 < 0 := h0; omega), decide_eq_true (show l.getD k 0 ≤ m from hm)]
          rfl
        exact WE.again (s := k) ((k + 1)) ⟨by omega, hgo⟩ (by (focus ((repeat (first | exact trivial | (refine ⟨rfl, ?_⟩))); done))) (fun _ h => (by (try simp only []); exact h.keep (by (focus ((repeat (first | exact TakeL.nil | apply TakeL.cons | exact Take.head | apply Take.tail)); done))))) (by (try simp only []); omega)
      · have hbad : okF l n m = false := by
          unfold okF
          rw [all_bad hin (by unfold inTo; rw [decide_eq_false (show ¬ l.getD k 0 ≤ m from hm), Bool.and_false]), Bool.and_false]
        repeat first
          | (apply WL.q; exact rfl; exact rfl; exact rfl; (first | (apply EvW.move; exact rfl) | (apply EvW.assign; exact rfl) | (apply EvW.cmpT; exact rfl; exact rfl; exact rfl; omega) | (apply EvW.cmpF; exact rfl; exact rfl; exact rfl; omega) | (apply EvW.pickF; exact rfl; exact rfl) | (apply EvW.idxRow; exact rfl; exact rfl; exact UndC.eq; exact SzC.eq; assumption; omega; omega) | (apply EvW.ldInt; exact rfl; exact ScalC.eq; assumption; omega)))
          | refine WC.seq ?_ | refine WC.region ?_ | refine WL.nil ?_ | refine WE.next ?_ | refine WC.block ?_ | refine WC.skip ?_ | refine WC.condT rfl ?_ | refine WC.ret ?_ | refine WE.passRet ?_ | refine WE.outRet ?_ | refine WL.wanted rfl rfl rfl ?_
        refine WE.ret1 rfl rfl ?_
        exact ⟨by rw [hbad], rfl⟩
  · obtain rfl : l.length = k := by omega
    have hall := all_got hok
    by_cases hn : (l.length : Int) = n
    · repeat first
        | (apply WL.q; exact rfl; exact rfl; exact rfl; (first | (apply EvW.move; exact rfl) | (apply EvW.assign; exact rfl) | (apply EvW.cmpT; exact rfl; exact rfl; exact rfl; omega) | (apply EvW.cmpF; exact rfl; exact rfl; exact rfl; omega) | (apply EvW.lenRow; exact rfl; exact UndC.eq; assumption)))
        | refine WC.seq ?_ | refine WC.region ?_ | refine WL.nil ?_ | refine WE.next ?_ | refine WC.exit ?_ | refine WE.pass ?_ | refine WE.hit ?_ | refine WC.condF rfl ?_ | refine WC.ret ?_
      refine WE.ret1 rfl rfl ?_
      exact ⟨by unfold okF; rw [hall, decide_eq_true hn]; rfl, rfl⟩
    · repeat first
        | (apply WL.q; exact rfl; exact rfl; exact rfl; (first | (apply EvW.move; exact rfl) | (apply EvW.assign; exact rfl) | (apply EvW.cmpF; exact rfl; exact rfl; exact rfl; omega) | (apply EvW.lenRow; exact rfl; exact UndC.eq; assumption)))
        | refine WC.seq ?_ | refine WC.region ?_ | refine WL.nil ?_ | refine WE.next ?_ | refine WC.exit ?_ | refine WE.pass ?_ | refine WE.hit ?_ | refine WC.condF rfl ?_ | refine WC.ret ?_
      refine WE.ret1 rfl rfl ?_
      exact ⟨by unfold okF; rw [hall, decide_eq_false hn]; rfl, rfl⟩
def wr (kind : Int) (ps : List (Value × List Int)) : List UInt8 := be 1 kind ++ ps.flatMap fun p => p.2.flatMap (be 1)
instance : Inhabited (Value × List Int) := ⟨(.slice none 0 0, [])⟩
theorem wr_snoc (kind : Int) (ps : List (Value × List Int)) (i : Nat) (h : i < ps.length) : wr kind (ps.take (i + 1)) = wr kind (ps.take i) ++ (ps.getD i default).2.flatMap (be 1) := by
  unfold wr
  rw [List.take_add_one, List.getD_eq_getElem?_getD, List.getElem?_eq_getElem h, List.flatMap_append, ← List.append_assoc]
  simp only [Option.toList_some, List.flatMap_cons, List.flatMap_nil, List.append_nil, Option.getD_some]
theorem wr_len (kind : Int) : ∀ (ps : List (Value × List Int)), (∀ p ∈ ps, p.2.length ≤ 17592186044416) → (wr kind ps).length ≤ 1 + ps.length * 17592186044416
  | [], _ => by simp [wr, be_length]
  | p :: ps, h => by
    have h1 := wr_len kind ps fun q hq => h q (by simp [hq])
    have h2 := h p (by simp)
    have e : (wr kind (p :: ps)).length = (wr kind ps).length + p.2.length := by
      unfold wr
      simp only [List.flatMap_cons, List.length_append, flat1_len]
      omega
    rw [e, List.length_cons]
    omega
theorem flat_snoc (l : List Int) (k : Nat) (h : k < l.length) : (l.take (k + 1)).flatMap (be 1) = (l.take k).flatMap (be 1) ++ [bytOf (l.getD k 0)] := by
  rw [List.take_add_one, List.getD_eq_getElem?_getD, List.getElem?_eq_getElem h, List.flatMap_append]
  simp [be1]
theorem rbytes_spec (kind : Int) (lv : Value) (ps : List (Value × List Int)) (w : World) (S : BSet) (hS : (sepL []).sat S w) (hx : Sees w S (.row 1 lv ps.length (ps.map (·.1)))) (hp : ∀ p ∈ ps, Sees w S (.row 1 p.1 p.2.length (p.2.map i64)) ∧ p.2.length ≤ 17592186044416) (hl : ps.length ≤ 4) :
    Tri Try.prog 32 #[i64 kind, lv] w S fun u A => u = str (wr kind ps) ∧ A = [] := by
  refine Tri.enter (l := [i64 kind, lv]) Try.func32 rfl Try.ntmps32 rfl [(0, i64 kind), (1, lv)] (subA rfl) hS ?_
  repeat first
    | (apply WL.q; exact rfl; exact rfl; exact rfl; (first | (apply EvW.move; exact rfl) | (apply EvW.assign; exact rfl) | (apply EvW.conv; exact rfl; exact UndC.eq; exact UndC.eq)))
    | refine WC.seq ?_ | refine WC.region ?_ | refine WL.nil ?_ | refine WE.next ?_
  try refine WL.wanted rfl rfl rfl ?_
  (apply WL.buildSlice; exact rfl; exact UndC.eq; exact SzC.eq; exact ZvC.eq; exact rfl; exact rfl; exact rfl; ((focus ((repeat (first | exact Flat.nil | (apply Flat.one; (first | exact rfl | assumption)) | (apply Flat.cons; exact rfl; exact rfl))); done))); exact rfl; exact rfl; intro c)
  refine WL.toOwn (bl := c) 1 1 .head rfl ?_
  refine WL.ownEq (cs' := (wr kind (ps.take 0)).map byt) (len' := (wr kind (ps.take 0)).length) .head (by simp [wr, be1]) (by simp [wr, be1, byt_of]) ?_
  repeat first
    | (apply WL.q; exact rfl; exact rfl; exact rfl; (first | (apply EvW.move; exact rfl) | (apply EvW.assign; exact rfl) | (apply EvW.lenRow; exact rfl; exact UndC.eq; assumption)))
    | refine WC.seq ?_ | refine WC.region ?_ | refine WL.nil ?_ | refine WE.next ?_ | refine WC.block ?_
  refine WC.loopK (σ := Nat × Value) [13, 14] (fun s => [(15, i64 s.1), (5, s.2)]) (fun s => [.own 5 1 (s.2) (wr kind (ps.take s.1)).length ((wr kind (ps.take s.1)).map byt)]) (fun s => s.1 ≤ ps.length) (fun s => ps.length - s.1) (0, .slice (some ⟨c, 0, none⟩) 1 1) (by (focus ((repeat (first | exact Pick.nil | (apply Pick.cons; exact rfl))); done))) (by (focus ((repeat (first | exact trivial | (refine ⟨rfl, ?_⟩))); done))) (fun _ h => h.keep (by (focus ((repeat (first | exact TakeL.nil | apply TakeL.cons | exact Take.head | apply Take.tail)); done)))) (Nat.zero_le _) (fun s hs => ?_)
  obtain ⟨i, v⟩ := s
  simp only [List.cons_append, List.nil_append] at hs ⊢
  by_cases hlt : (i : Int) < ps.length
  · have hmem := getD_in ps default i (by omega)
    have hsn := wr_snoc kind ps i (by omega)
    have hlen := wr_len kind (ps.take i) fun p hp' => (hp p (List.mem_of_mem_take hp')).2
    rw [List.length_take_of_le (by omega)] at hlen
    obtain ⟨hr, hL⟩ := hp _ hmem
    repeat first
      | (apply WL.q; exact rfl; exact rfl; exact rfl; (first | (apply EvW.cmpT; exact rfl; exact rfl; exact rfl; omega) | (apply EvW.idxRow; exact rfl; exact rfl; exact UndC.eq; exact SzC.eq; assumption; omega; omega)))
      | refine WC.seq ?_ | refine WC.region ?_ | refine WL.nil ?_ | refine WE.next ?_ | refine WC.block ?_ | refine WC.skip ?_ | refine WC.condT rfl ?_
    try refine WL.wanted rfl rfl rfl ?_
    (apply WL.q; exact rfl; exact rfl; exact rfl; (apply EvW.ldRow (i := i) (off := 0) (q := (ps.getD i default).1); exact rfl; exact ScalC.eq; assumption; (simp only [Int.toNat_natCast, Nat.mul_one, Nat.add_zero]; rw [List.getElem?_map, List.getD_eq_getElem?_getD, List.getElem?_eq_getElem (show i < ps.length by omega)]; rfl)))
    generalize ps.getD i default = p at hmem hsn hr hL
    generalize wr kind (ps.take i) = W at hsn hlen
    refine WL.ownEq (cs' := (W ++ (p.2.take 0).flatMap (be 1)).map byt) (len' := (W ++ (p.2.take 0).flatMap (be 1)).length) .head (by simp) (by simp) ?_
    repeat first
      | (apply WL.q; exact rfl; exact rfl; exact rfl; (first | (apply EvW.move; exact rfl) | (apply EvW.assign; exact rfl) | (apply EvW.lenRow; exact rfl; exact UndC.eq; assumption)))
      | refine WC.seq ?_ | refine WC.region ?_ | refine WL.nil ?_ | refine WE.next ?_ | refine WC.block ?_
    refine WC.loopK (σ := Nat × Value) [13, 14, 15, 19, 20] (fun s => [(21, i64 s.1), (5, s.2)]) (fun s => [.own 5 1 (s.2) (W ++ (p.2.take s.1).flatMap (be 1)).length ((W ++ (p.2.take s.1).flatMap (be 1)).map byt)]) (fun s => s.1 ≤ p.2.length) (fun s => p.2.length - s.1) (0, v) (by (focus ((repeat (first | exact Pick.nil | (apply Pick.cons; exact rfl))); done))) (by (focus ((repeat (first | exact trivial | (refine ⟨rfl, ?_⟩))); done))) (fun _ h => h.keep (by (focus ((repeat (first | exact TakeL.nil | apply TakeL.cons | exact Take.head | apply Take.tail)); done)))) (Nat.zero_le _) (fun s hs => ?_)
    obtain ⟨k, v2⟩ := s
    simp only [List.cons_append, List.nil_append] at hs ⊢
    by_cases hlt2 : (k : Int) < p.2.length
    · have hsn2 := flat_snoc p.2 k (by omega)
      have hl2 := flat1_len (p.2.take k)
      rw [List.length_take_of_le (by omega)] at hl2
      repeat first
        | (apply WL.q; exact rfl; exact rfl; exact rfl; (first | (apply EvW.move; exact rfl) | (apply EvW.assign; exact rfl) | (apply EvW.cmpT; exact rfl; exact rfl; exact rfl; omega) | (apply EvW.conv; exact rfl; exact UndC.eq; exact UndC.eq) | (apply EvW.idxRow; exact rfl; exact rfl; exact UndC.eq; exact SzC.eq; assumption; omega; omega) | (apply EvW.ldInt; exact rfl; exact ScalC.eq; assumption; omega)))
        | refine WC.seq ?_ | refine WC.region ?_ | refine WL.nil ?_ | refine WE.next ?_ | refine WC.block ?_ | refine WC.skip ?_ | refine WC.condT rfl ?_
      try refine WL.wanted rfl rfl rfl ?_
      (apply WL.buildSlice; exact rfl; exact UndC.eq; exact SzC.eq; exact ZvC.eq; exact rfl; exact rfl; exact rfl; ((focus ((repeat (first | exact Flat.nil | (apply Flat.one; (first | exact rfl | assumption)) | (apply Flat.cons; exact rfl; exact rfl))); done))); exact rfl; exact rfl; intro c1)
      try refine WL.wanted rfl rfl rfl ?_
      (apply WL.append; exact rfl; exact rfl; exact rfl; exact UndC.eq; exact SzC.eq; exact ByC.eq; exact ZvC.eq; exact rfl; (first | exact notInt_sl UndC.eq | exact notInt_st UndC.eq); exact rfl; (focus ((repeat (first | exact Take.head | apply Take.tail)); done)))
      · exact adds_blk .head rfl rfl
      · (simp only [List.length_append]; omega)
      intro v3
      refine WL.ownEq (cs' := (W ++ (p.2.take (k + 1)).flatMap (be 1)).map byt) (len' := (W ++ (p.2.take (k + 1)).flatMap (be 1)).length) .head (by rw [hsn2]; simp; omega) (by rw [hsn2, ← List.append_assoc, List.map_append (l₁ := W ++ _)]; simp only [List.map_cons, List.map_nil, byt_of]; rfl) ?_
      repeat first
        | (apply WL.q; exact rfl; exact rfl; exact rfl; (first | (apply EvW.move; exact rfl) | (apply EvW.assign; exact rfl) | (apply EvW.arN; exact rfl; exact rfl; exact rfl; (first | (refine i64_in ?_ ?_ <;> omega) | (constructor <;> simp only [IntKind.min, IntKind.max, IntKind.signed, IntKind.bits, ↓reduceIte, Bool.false_eq_true] <;> omega)))))
        | refine WC.region ?_ | refine WL.nil ?_ | refine WE.next ?_ | refine WE.out ?_
      exact WE.again (s := (k, v2)) ((k + 1, v3)) (by simp only []; omega) (by (focus ((repeat (first | exact trivial | (refine ⟨rfl, ?_⟩))); done))) (fun _ h => (by (try simp only []); exact h.keep (by (focus ((repeat (first | exact TakeL.nil | apply TakeL.cons | exact Take.head | apply Take.tail)); done))))) (by (try simp only []); omega)
    · obtain rfl : p.2.length = k := by omega
      rw [List.take_length]
      rw [← hsn]
      repeat first
        | (apply WL.q; exact rfl; exact rfl; exact rfl; (first | (apply EvW.move; exact rfl) | (apply EvW.cmpF; exact rfl; exact rfl; exact rfl; omega) | (apply EvW.arN; exact rfl; exact rfl; exact rfl; (first | (refine i64_in ?_ ?_ <;> omega) | (constructor <;> simp only [IntKind.min, IntKind.max, IntKind.signed, IntKind.bits, ↓reduceIte, Bool.false_eq_true] <;> omega)))))
        | refine WC.seq ?_ | refine WC.region ?_ | refine WL.nil ?_ | refine WE.next ?_ | refine WC.exit ?_ | refine WE.pass ?_ | refine WE.hit ?_ | refine WE.out ?_ | refine WC.condF rfl ?_
      exact WE.again (s := (i, v)) ((i + 1, v2)) (by simp only []; omega) (by (focus ((repeat (first | exact trivial | (refine ⟨rfl, ?_⟩))); done))) (fun _ h => (by (try simp only []); exact h.keep (by (focus ((repeat (first | exact TakeL.nil | apply TakeL.cons | exact Take.head | apply Take.tail)); done))))) (by (try simp only []); omega)
  · obtain rfl : ps.length = i := by omega
    rw [List.take_length]
    repeat first
      | (apply WL.q; exact rfl; exact rfl; exact rfl; (first | (apply EvW.move; exact rfl) | (apply EvW.assign; exact rfl) | (apply EvW.cmpF; exact rfl; exact rfl; exact rfl; omega) | (apply EvW.strOwn; exact rfl; exact UndC.eq; exact UndC.eq; exact UndC.eq; (focus ((repeat (first | exact Take.head | apply Take.tail)); done)))))
      | refine WC.seq ?_ | refine WC.region ?_ | refine WL.nil ?_ | refine WE.next ?_ | refine WC.exit ?_ | refine WE.pass ?_ | refine WE.hit ?_ | refine WC.condF rfl ?_ | refine WC.ret ?_
    refine WE.bare ?_
    refine WE.ret1 rfl rfl ?_
    exact ⟨rfl, rfl⟩
theorem rstatus_spec (h s : Q4) (w : World) (S : BSet) (hS : (sepL []).sat S w) (hh : h.Seen w S) (hs : s.Seen w S) :
    Tri Try.prog 13 #[.agg #[(h).a, (h).b, (h).y, (h).d], .agg #[(s).a, (s).b, (s).y, (s).d]] w S fun u A => u = .tuple #[str (if sOk h s = true then sPay s else []), i64 (if sOk h s = true then 0 else 32)] ∧ A = [] := by
  refine Tri.enter (l := [.agg #[(h).a, (h).b, (h).y, (h).d], .agg #[(s).a, (s).b, (s).y, (s).d]]) Try.func13 rfl Try.ntmps13 rfl [(0, .agg #[(h).a, (h).b, (h).y, (h).d]), (1, .agg #[(s).a, (s).b, (s).y, (s).d])] (subA rfl) hS ?_
  have g1 := hh.a
  have g2 := hh.b
  have g3 := hh.y
  have g4 := hh.d
  have hso : sOk h s = (okF s.la h.la.length 1 && (okF s.lb h.lb.length 2 && (okF s.ly h.ly.length 1 && (okF s.ld h.ld.length 1 && true)))) := rfl
  repeat first
    | refine WC.seq ?_ | refine WC.region ?_
  try refine WL.wanted rfl rfl rfl ?_
  (apply WL.box; exact rfl; exact rfl; exact rfl; intro q1)
  skip
  try refine WL.wanted rfl rfl rfl ?_
  (apply WL.box; exact rfl; exact rfl; exact rfl; intro q2)
  repeat first
    | (apply WL.q; exact rfl; exact rfl; exact rfl; (first | (apply EvW.assign; exact rfl) | (apply EvW.fieldAddr0; exact rfl; exact FldC.eq) | (apply EvW.load; exact rfl; exact ScalC.eq; (focus ((repeat (first | exact Take.head | apply Take.tail)); done)); exact rfl) | (apply EvW.lenRow; exact rfl; exact UndC.eq; assumption)))
    | refine WC.seq ?_ | refine WC.region ?_ | refine WL.nil ?_ | refine WE.next ?_
  try refine WL.wanted rfl rfl rfl ?_
  apply WL.callA ([])
  · exact rfl
  · exact rfl
  · exact fun w => Try.call31 _ w
  · (focus ((repeat (first | exact TakeL.nil | apply TakeL.cons | exact Take.head | apply Take.tail)); done))
  · exact fun w1 S1 hS1 hs1 ho1 => rright_spec s.a s.la h.la.length 1 w1 S1 hS1 (hs1 _ hs.a) hs.na
  rintro _ _ ⟨rfl, rfl⟩
  first | refine WL.app4 ?_ | refine WL.app3 ?_ | refine WL.app2 ?_ | refine WL.app1 ?_ | refine WL.app0 ?_ | skip
  cases o1 : okF s.la h.la.length 1
  · rw [show sOk h s = false by rw [hso, o1]; rfl, if_neg (by decide), if_neg (by decide)]
    repeat first
      | (apply WL.q; exact rfl; exact rfl; exact rfl; (first | (apply EvW.move; exact rfl) | (apply EvW.assign; exact rfl) | (apply EvW.pickT; exact rfl; exact rfl) | (apply EvW.notF; exact rfl)))
      | refine WC.seq ?_ | refine WC.region ?_ | refine WL.nil ?_ | refine WE.next ?_ | refine WC.condT rfl ?_ | refine WC.ret ?_ | refine WE.passRet ?_ | refine WL.unwanted rfl rfl rfl rfl ?_
    refine WE.bare ?_
    refine WE.retN (l := [4, 5]) rfl rfl rfl ?_
    exact ⟨rfl, rfl⟩
  repeat first
    | (apply WL.q; exact rfl; exact rfl; exact rfl; (first | (apply EvW.move; exact rfl) | (apply EvW.fieldAddr0; exact rfl; exact FldC.eq) | (apply EvW.load; exact rfl; exact ScalC.eq; (focus ((repeat (first | exact Take.head | apply Take.tail)); done)); exact rfl) | (apply EvW.notT; exact rfl) | (apply EvW.lenRow; exact rfl; exact UndC.eq; assumption)))
    | refine WL.wanted rfl rfl rfl ?_
  try refine WL.wanted rfl rfl rfl ?_
  apply WL.callA ([])
  · exact rfl
  · exact rfl
  · exact fun w => Try.call31 _ w
  · (focus ((repeat (first | exact TakeL.nil | apply TakeL.cons | exact Take.head | apply Take.tail)); done))
  · exact fun w1 S1 hS1 hs1 ho1 => rright_spec s.b s.lb h.lb.length 2 w1 S1 hS1 (hs1 _ hs.b) hs.nb
  rintro _ _ ⟨rfl, rfl⟩
  first | refine WL.app4 ?_ | refine WL.app3 ?_ | refine WL.app2 ?_ | refine WL.app1 ?_ | refine WL.app0 ?_ | skip
  cases o2 : okF s.lb h.lb.length 2
  · rw [show sOk h s = false by rw [hso, o1, o2]; rfl, if_neg (by decide), if_neg (by decide)]
    repeat first
      | (apply WL.q; exact rfl; exact rfl; exact rfl; (first | (apply EvW.move; exact rfl) | (apply EvW.assign; exact rfl) | (apply EvW.pickT; exact rfl; exact rfl) | (apply EvW.pickF; exact rfl; exact rfl) | (apply EvW.notF; exact rfl)))
      | refine WC.seq ?_ | refine WC.region ?_ | refine WL.nil ?_ | refine WE.next ?_ | refine WC.condT rfl ?_ | refine WC.ret ?_ | refine WE.passRet ?_ | refine WL.wanted rfl rfl rfl ?_ | refine WL.unwanted rfl rfl rfl rfl ?_
    refine WE.bare ?_
    refine WE.retN (l := [4, 5]) rfl rfl rfl ?_
    exact ⟨rfl, rfl⟩
  repeat first
    | (apply WL.q; exact rfl; exact rfl; exact rfl; (first | (apply EvW.move; exact rfl) | (apply EvW.fieldAddr0; exact rfl; exact FldC.eq) | (apply EvW.load; exact rfl; exact ScalC.eq; (focus ((repeat (first | exact Take.head | apply Take.tail)); done)); exact rfl) | (apply EvW.pickF; exact rfl; exact rfl) | (apply EvW.notT; exact rfl) | (apply EvW.lenRow; exact rfl; exact UndC.eq; assumption)))
    | refine WL.wanted rfl rfl rfl ?_
  try refine WL.wanted rfl rfl rfl ?_
  apply WL.callA ([])
  · exact rfl
  · exact rfl
  · exact fun w => Try.call31 _ w
  · (focus ((repeat (first | exact TakeL.nil | apply TakeL.cons | exact Take.head | apply Take.tail)); done))
  · exact fun w1 S1 hS1 hs1 ho1 => rright_spec s.y s.ly h.ly.length 1 w1 S1 hS1 (hs1 _ hs.y) hs.ny
  rintro _ _ ⟨rfl, rfl⟩
  first | refine WL.app4 ?_ | refine WL.app3 ?_ | refine WL.app2 ?_ | refine WL.app1 ?_ | refine WL.app0 ?_ | skip
  cases o3 : okF s.ly h.ly.length 1
  · rw [show sOk h s = false by rw [hso, o1, o2, o3]; rfl, if_neg (by decide), if_neg (by decide)]
    repeat first
      | (apply WL.q; exact rfl; exact rfl; exact rfl; (first | (apply EvW.move; exact rfl) | (apply EvW.assign; exact rfl) | (apply EvW.pickT; exact rfl; exact rfl) | (apply EvW.pickF; exact rfl; exact rfl) | (apply EvW.notF; exact rfl)))
      | refine WC.seq ?_ | refine WC.region ?_ | refine WL.nil ?_ | refine WE.next ?_ | refine WC.condT rfl ?_ | refine WC.ret ?_ | refine WE.passRet ?_ | refine WL.wanted rfl rfl rfl ?_ | refine WL.unwanted rfl rfl rfl rfl ?_
    refine WE.bare ?_
    refine WE.retN (l := [4, 5]) rfl rfl rfl ?_
    exact ⟨rfl, rfl⟩
  repeat first
    | (apply WL.q; exact rfl; exact rfl; exact rfl; (first | (apply EvW.move; exact rfl) | (apply EvW.fieldAddr0; exact rfl; exact FldC.eq) | (apply EvW.load; exact rfl; exact ScalC.eq; (focus ((repeat (first | exact Take.head | apply Take.tail)); done)); exact rfl) | (apply EvW.pickF; exact rfl; exact rfl) | (apply EvW.notT; exact rfl) | (apply EvW.lenRow; exact rfl; exact UndC.eq; assumption)))
    | refine WL.wanted rfl rfl rfl ?_
  try refine WL.wanted rfl rfl rfl ?_
  apply WL.callA ([])
  · exact rfl
  · exact rfl
  · exact fun w => Try.call31 _ w
  · (focus ((repeat (first | exact TakeL.nil | apply TakeL.cons | exact Take.head | apply Take.tail)); done))
  · exact fun w1 S1 hS1 hs1 ho1 => rright_spec s.d s.ld h.ld.length 1 w1 S1 hS1 (hs1 _ hs.d) hs.nd
  rintro _ _ ⟨rfl, rfl⟩
  first | refine WL.app4 ?_ | refine WL.app3 ?_ | refine WL.app2 ?_ | refine WL.app1 ?_ | refine WL.app0 ?_ | skip
  cases o4 : okF s.ld h.ld.length 1
  · rw [show sOk h s = false by rw [hso, o1, o2, o3, o4]; rfl, if_neg (by decide), if_neg (by decide)]
    repeat first
      | (apply WL.q; exact rfl; exact rfl; exact rfl; (first | (apply EvW.assign; exact rfl) | (apply EvW.pickF; exact rfl; exact rfl) | (apply EvW.notF; exact rfl)))
      | refine WC.seq ?_ | refine WC.region ?_ | refine WL.nil ?_ | refine WE.next ?_ | refine WC.condT rfl ?_ | refine WC.ret ?_ | refine WE.passRet ?_ | refine WL.wanted rfl rfl rfl ?_
    refine WE.bare ?_
    refine WE.retN (l := [4, 5]) rfl rfl rfl ?_
    exact ⟨rfl, rfl⟩
  have z1 := hs.a.row_one
  have z2 := hs.b.row_one
  have z3 := hs.y.row_one
  have z4 := hs.d.row_one
  rw [show sOk h s = true by rw [hso, o1, o2, o3, o4]; rfl, if_pos rfl, if_pos rfl]
  repeat first
    | (apply WL.q; exact rfl; exact rfl; exact rfl; (first | (apply EvW.fieldAddr0; exact rfl; exact FldC.eq) | (apply EvW.load; exact rfl; exact ScalC.eq; (focus ((repeat (first | exact Take.head | apply Take.tail)); done)); exact rfl) | (apply EvW.pickF; exact rfl; exact rfl) | (apply EvW.notT; exact rfl)))
    | refine WC.seq ?_ | refine WC.region ?_ | refine WL.nil ?_ | refine WE.next ?_ | refine WC.skip ?_ | refine WC.condF rfl ?_ | refine WL.wanted rfl rfl rfl ?_
  try refine WL.wanted rfl rfl rfl ?_
  (apply WL.buildSlice; exact rfl; exact UndC.eq; exact SzC.eq; exact ZvC.eq; exact rfl; exact rfl; exact rfl; ((focus ((repeat (first | exact Flat.nil | (apply Flat.one; (first | exact rfl | assumption)) | (apply Flat.cons; exact rfl; exact rfl))); done))); exact rfl; exact rfl; intro c)
  try refine WL.wanted rfl rfl rfl ?_
  apply WL.callA ([])
  · exact rfl
  · exact rfl
  · exact fun w => Try.call32 _ w
  · (focus ((repeat (first | exact TakeL.nil | apply TakeL.cons | exact Take.head | apply Take.tail)); done))
  · exact fun w1 S1 hS1 hs1 ho1 => rbytes_spec 1 _ [(s.a, s.la), (s.b, s.lb), (s.y, s.ly), (s.d, s.ld)] w1 S1 hS1 ((ho1 _ _ .head).blkRow rfl (fun k u h => by simpa using h) (by simp)) (by have hs' := hs.down hs1; intro p hp; simp only [List.mem_cons, List.not_mem_nil, or_false] at hp; rcases hp with rfl | rfl | rfl | rfl; exact ⟨hs'.a, hs'.na⟩; exact ⟨hs'.b, hs'.nb⟩; exact ⟨hs'.y, hs'.ny⟩; exact ⟨hs'.d, hs'.nd⟩) (by simp)
  rintro _ _ ⟨rfl, rfl⟩
  first | refine WL.app4 ?_ | refine WL.app3 ?_ | refine WL.app2 ?_ | refine WL.app1 ?_ | refine WL.app0 ?_ | skip
  repeat first
    | (apply WL.q; exact rfl; exact rfl; exact rfl; (first | (apply EvW.assign; exact rfl)))
    | refine WL.nil ?_ | refine WE.next ?_ | refine WC.ret ?_
  refine WE.bare ?_
  refine WE.retN (l := [4, 5]) rfl rfl rfl ?_
  exact ⟨rfl, rfl⟩
theorem rorders_spec (h : Q4) (s : Q3) (w : World) (S : BSet) (hS : (sepL []).sat S w) (hh : h.Seen w S) (hs : s.Seen w S) :
    Tri Try.prog 15 #[.agg #[(h).a, (h).b, (h).y, (h).d], .agg #[(s).a, (s).b, (s).y]] w S fun u A => u = .tuple #[str (if oOk h s = true then oPay s else []), i64 (if oOk h s = true then 0 else 32)] ∧ A = [] := by
  refine Tri.enter (l := [.agg #[(h).a, (h).b, (h).y, (h).d], .agg #[(s).a, (s).b, (s).y]]) Try.func15 rfl Try.ntmps15 rfl [(0, .agg #[(h).a, (h).b, (h).y, (h).d]), (1, .agg #[(s).a, (s).b, (s).y])] (subA rfl) hS ?_
  have g1 := hh.a
  have g2 := hh.b
  have g3 := hh.y
  have g4 := hh.d
  have hso : oOk h s = (okF s.la h.lb.length 2 && (okF s.lb h.ld.length 2 && (okF s.ly h.ly.length 1 && true))) := rfl
  repeat first
    | refine WC.seq ?_ | refine WC.region ?_
  try refine WL.wanted rfl rfl rfl ?_
  (apply WL.box; exact rfl; exact rfl; exact rfl; intro q1)
  skip
  try refine WL.wanted rfl rfl rfl ?_
  (apply WL.box; exact rfl; exact rfl; exact rfl; intro q2)
  repeat first
    | (apply WL.q; exact rfl; exact rfl; exact rfl; (first | (apply EvW.assign; exact rfl) | (apply EvW.fieldAddr0; exact rfl; exact FldC.eq) | (apply EvW.load; exact rfl; exact ScalC.eq; (focus ((repeat (first | exact Take.head | apply Take.tail)); done)); exact rfl) | (apply EvW.lenRow; exact rfl; exact UndC.eq; assumption)))
    | refine WC.seq ?_ | refine WC.region ?_ | refine WL.nil ?_ | refine WE.next ?_
  try refine WL.wanted rfl rfl rfl ?_
  apply WL.callA ([])
  · exact rfl
  · exact rfl
  · exact fun w => Try.call31 _ w
  · (focus ((repeat (first | exact TakeL.nil | apply TakeL.cons | exact Take.head | apply Take.tail)); done))
  · exact fun w1 S1 hS1 hs1 ho1 => rright_spec s.a s.la h.lb.length 2 w1 S1 hS1 (hs1 _ hs.a) hs.na
  rintro _ _ ⟨rfl, rfl⟩
  first | refine WL.app4 ?_ | refine WL.app3 ?_ | refine WL.app2 ?_ | refine WL.app1 ?_ | refine WL.app0 ?_ | skip
  cases o1 : okF s.la h.lb.length 2
  · rw [show oOk h s = false by rw [hso, o1]; rfl, if_neg (by decide), if_neg (by decide)]
    repeat first
      | (apply WL.q; exact rfl; exact rfl; exact rfl; (first | (apply EvW.move; exact rfl) | (apply EvW.assign; exact rfl) | (apply EvW.pickT; exact rfl; exact rfl) | (apply EvW.notF; exact rfl)))
      | refine WC.seq ?_ | refine WC.region ?_ | refine WL.nil ?_ | refine WE.next ?_ | refine WC.condT rfl ?_ | refine WC.ret ?_ | refine WE.passRet ?_ | refine WL.unwanted rfl rfl rfl rfl ?_
    refine WE.bare ?_
    refine WE.retN (l := [4, 5]) rfl rfl rfl ?_
    exact ⟨rfl, rfl⟩
  repeat first
    | (apply WL.q; exact rfl; exact rfl; exact rfl; (first | (apply EvW.move; exact rfl) | (apply EvW.fieldAddr0; exact rfl; exact FldC.eq) | (apply EvW.load; exact rfl; exact ScalC.eq; (focus ((repeat (first | exact Take.head | apply Take.tail)); done)); exact rfl) | (apply EvW.notT; exact rfl) | (apply EvW.lenRow; exact rfl; exact UndC.eq; assumption)))
    | refine WL.wanted rfl rfl rfl ?_
  try refine WL.wanted rfl rfl rfl ?_
  apply WL.callA ([])
  · exact rfl
  · exact rfl
  · exact fun w => Try.call31 _ w
  · (focus ((repeat (first | exact TakeL.nil | apply TakeL.cons | exact Take.head | apply Take.tail)); done))
  · exact fun w1 S1 hS1 hs1 ho1 => rright_spec s.b s.lb h.ld.length 2 w1 S1 hS1 (hs1 _ hs.b) hs.nb
  rintro _ _ ⟨rfl, rfl⟩
  first | refine WL.app4 ?_ | refine WL.app3 ?_ | refine WL.app2 ?_ | refine WL.app1 ?_ | refine WL.app0 ?_ | skip
  cases o2 : okF s.lb h.ld.length 2
  · rw [show oOk h s = false by rw [hso, o1, o2]; rfl, if_neg (by decide), if_neg (by decide)]
    repeat first
      | (apply WL.q; exact rfl; exact rfl; exact rfl; (first | (apply EvW.move; exact rfl) | (apply EvW.assign; exact rfl) | (apply EvW.pickT; exact rfl; exact rfl) | (apply EvW.pickF; exact rfl; exact rfl) | (apply EvW.notF; exact rfl)))
      | refine WC.seq ?_ | refine WC.region ?_ | refine WL.nil ?_ | refine WE.next ?_ | refine WC.condT rfl ?_ | refine WC.ret ?_ | refine WE.passRet ?_ | refine WL.wanted rfl rfl rfl ?_ | refine WL.unwanted rfl rfl rfl rfl ?_
    refine WE.bare ?_
    refine WE.retN (l := [4, 5]) rfl rfl rfl ?_
    exact ⟨rfl, rfl⟩
  repeat first
    | (apply WL.q; exact rfl; exact rfl; exact rfl; (first | (apply EvW.move; exact rfl) | (apply EvW.fieldAddr0; exact rfl; exact FldC.eq) | (apply EvW.load; exact rfl; exact ScalC.eq; (focus ((repeat (first | exact Take.head | apply Take.tail)); done)); exact rfl) | (apply EvW.pickF; exact rfl; exact rfl) | (apply EvW.notT; exact rfl) | (apply EvW.lenRow; exact rfl; exact UndC.eq; assumption)))
    | refine WL.wanted rfl rfl rfl ?_
  try refine WL.wanted rfl rfl rfl ?_
  apply WL.callA ([])
  · exact rfl
  · exact rfl
  · exact fun w => Try.call31 _ w
  · (focus ((repeat (first | exact TakeL.nil | apply TakeL.cons | exact Take.head | apply Take.tail)); done))
  · exact fun w1 S1 hS1 hs1 ho1 => rright_spec s.y s.ly h.ly.length 1 w1 S1 hS1 (hs1 _ hs.y) hs.ny
  rintro _ _ ⟨rfl, rfl⟩
  first | refine WL.app4 ?_ | refine WL.app3 ?_ | refine WL.app2 ?_ | refine WL.app1 ?_ | refine WL.app0 ?_ | skip
  cases o3 : okF s.ly h.ly.length 1
  · rw [show oOk h s = false by rw [hso, o1, o2, o3]; rfl, if_neg (by decide), if_neg (by decide)]
    repeat first
      | (apply WL.q; exact rfl; exact rfl; exact rfl; (first | (apply EvW.assign; exact rfl) | (apply EvW.pickF; exact rfl; exact rfl) | (apply EvW.notF; exact rfl)))
      | refine WC.seq ?_ | refine WC.region ?_ | refine WL.nil ?_ | refine WE.next ?_ | refine WC.condT rfl ?_ | refine WC.ret ?_ | refine WE.passRet ?_ | refine WL.wanted rfl rfl rfl ?_
    refine WE.bare ?_
    refine WE.retN (l := [4, 5]) rfl rfl rfl ?_
    exact ⟨rfl, rfl⟩
  have z1 := hs.a.row_one
  have z2 := hs.b.row_one
  have z3 := hs.y.row_one
  rw [show oOk h s = true by rw [hso, o1, o2, o3]; rfl, if_pos rfl, if_pos rfl]
  repeat first
    | (apply WL.q; exact rfl; exact rfl; exact rfl; (first | (apply EvW.fieldAddr0; exact rfl; exact FldC.eq) | (apply EvW.load; exact rfl; exact ScalC.eq; (focus ((repeat (first | exact Take.head | apply Take.tail)); done)); exact rfl) | (apply EvW.pickF; exact rfl; exact rfl) | (apply EvW.notT; exact rfl)))
    | refine WC.seq ?_ | refine WC.region ?_ | refine WL.nil ?_ | refine WE.next ?_ | refine WC.skip ?_ | refine WC.condF rfl ?_ | refine WL.wanted rfl rfl rfl ?_
  try refine WL.wanted rfl rfl rfl ?_
  (apply WL.buildSlice; exact rfl; exact UndC.eq; exact SzC.eq; exact ZvC.eq; exact rfl; exact rfl; exact rfl; ((focus ((repeat (first | exact Flat.nil | (apply Flat.one; (first | exact rfl | assumption)) | (apply Flat.cons; exact rfl; exact rfl))); done))); exact rfl; exact rfl; intro c)
  try refine WL.wanted rfl rfl rfl ?_
  apply WL.callA ([])
  · exact rfl
  · exact rfl
  · exact fun w => Try.call32 _ w
  · (focus ((repeat (first | exact TakeL.nil | apply TakeL.cons | exact Take.head | apply Take.tail)); done))
  · exact fun w1 S1 hS1 hs1 ho1 => rbytes_spec 2 _ [(s.a, s.la), (s.b, s.lb), (s.y, s.ly)] w1 S1 hS1 ((ho1 _ _ .head).blkRow rfl (fun k u h => by simpa using h) (by simp)) (by have hs' := hs.down hs1; intro p hp; simp only [List.mem_cons, List.not_mem_nil, or_false] at hp; rcases hp with rfl | rfl | rfl; exact ⟨hs'.a, hs'.na⟩; exact ⟨hs'.b, hs'.nb⟩; exact ⟨hs'.y, hs'.ny⟩) (by simp)
  rintro _ _ ⟨rfl, rfl⟩
  first | refine WL.app4 ?_ | refine WL.app3 ?_ | refine WL.app2 ?_ | refine WL.app1 ?_ | refine WL.app0 ?_ | skip
  repeat first
    | (apply WL.q; exact rfl; exact rfl; exact rfl; (first | (apply EvW.assign; exact rfl)))
    | refine WL.nil ?_ | refine WE.next ?_ | refine WC.ret ?_
  refine WE.bare ?_
  refine WE.retN (l := [4, 5]) rfl rfl rfl ?_
  exact ⟨rfl, rfl⟩
end Go.Proofs.Ytdnpofigagdabaa
