/- The document's memory of cells: what is found when the power is back. -/
import Derived.Test.YtakffjjnogpolaaCellsO
namespace Go.Proofs.Ytakffjjnogpolaa
open Go.RowKit Go.BK

theorem pg_out {pgs : List Pg} {T : TypeId} {i : Nat} (h : i < pgs.length) : (pgs.map (pgH T))[i]? = some (.own T 1 (pgs.getD i default).v 4096 ((pgs.getD i default).b.map byt)) := by
  rw [List.getElem?_map, getD_some (d := default) h]; rfl
theorem pg_at {pgs : List Pg} {i : Nat} (h : i < pgs.length) : (pgs.map pgV)[i * 1 + 0]? = some (pgs.getD i default).v := by
  rw [Nat.mul_one, Nat.add_zero, List.getElem?_map, getD_some (d := default) h]; rfl
theorem pg_take {pgs : List Pg} {T : TypeId} {i : Nat} (h : i < pgs.length) (l : List UInt8) : Take (.own T 1 (pgs.getD i default).v 4096 (l.map byt)) ((pgs.set i ⟨(pgs.getD i default).v, l⟩).map (pgH T)) ((pgs.map (pgH T)).eraseIdx i) := by
  rw [List.map_set]
  exact take_set _ (by rw [List.length_map]; exact h)
theorem all_byt (l : List UInt8) : (l.map byt).all (·.oneCell') = true := by
  rw [List.all_eq_true]
  intro x hx
  obtain ⟨y, _, rfl⟩ := List.mem_map.1 hx
  rfl
/-- The first k of the one list, then those of the other. -/
def mix {α : Type} (a b : List α) (k : Nat) : List α := a.take k ++ b.drop k
theorem mix_zero {α : Type} (a b : List α) : mix a b 0 = b := by simp [mix]
theorem mix_all {α : Type} {a b : List α} {k : Nat} (h : a.length = k) (h' : b.length = k) : mix a b k = a := by subst h; unfold mix; rw [List.take_length, ← h', List.drop_length, List.append_nil]
theorem mix_set {α : Type} {a b : List α} {k : Nat} {d : α} (h : k < a.length) (h' : k < b.length) : (mix a b k).set k (a.getD k d) = mix a b (k + 1) := by
  unfold mix
  have l1 : (a.take k).length = k := by rw [List.length_take]; omega
  rw [List.set_append_right _ _ (by omega), l1, Nat.sub_self, List.drop_eq_getElem_cons h', List.set_cons_zero, List.take_add_one, getD_some (d := d) h]
  simp
theorem mix_length {α : Type} {a b : List α} {k n : Nat} (h : a.length = n) (h' : b.length = n) (hk : k ≤ n) : (mix a b k).length = n := by unfold mix; rw [List.length_append, List.length_take, List.length_drop]; omega
set_option maxHeartbeats 1000000 in
theorem ragain_spec (r : Nat) (bv wv cv : Value) (pgs : List Pg) (m : Mem) (K : Nat) (w : World) (S : BSet) (hS : (sepL [.blk r #[bv, wv, cv, i64 (m).ar, i64 (m).ac, .bool (m).off] 59, .own 31 1 bv 24 ((pgs).map pgV), sepL ((pgs).map (pgH 5)), .own 3 1 wv 24 ((m).worn.map i64)]).sat S w) (hm : m.wf K) (hP : PgOk pgs m) :
    Tri Try.prog 24 #[ptr r 0] w S fun u A => ∃ r2 bv2 wv2 pgs2, u = ptr r2 0 ∧ A = [.blk r2 #[bv2, wv2, .slice none 0 0, i64 (m.again).ar, i64 (m.again).ac, .bool (m.again).off] 59, .own 31 1 bv2 24 ((pgs2).map pgV), sepL ((pgs2).map (pgH 5)), .own 3 1 wv2 24 ((m.again).worn.map i64), .own 43 2 (.slice none 0 0) 0 []] ∧ PgOk pgs2 m.again := by
  refine Tri.enter (l := [ptr r 0]) Try.func24 rfl Try.ntmps24 rfl [(0, ptr r 0)] (subA rfl) hS ?_
  repeat first
    | (apply WL.q; exact rfl; exact rfl; exact rfl; (first | (apply EvW.assign; exact rfl)))
    | refine WC.seq ?_ | refine WC.region ?_ | refine WL.nil ?_ | refine WE.next ?_
  try refine WL.wanted rfl rfl rfl ?_
  apply WL.callA ([])
  · exact rfl
  · exact rfl
  · exact fun w => Try.call18 _ w
  · (focus ((repeat (first | exact TakeL.nil | apply TakeL.cons | exact Take.head | apply Take.tail)); done))
  · exact fun w1 S1 hS1 hs1 ho1 => rnew_spec w1 S1 hS1
  rintro _ _ ⟨r2, bv2, wv2, pgs2, rfl, rfl, h2⟩
  first | refine WL.app4 ?_ | refine WL.app3 ?_ | refine WL.app2 ?_ | refine WL.app1 ?_ | refine WL.app0 ?_ | skip
  have hln := h2.len
  have hnl : Mem.new.pages.length = 24 := rfl
  have hwl : Mem.new.worn.length = 24 := rfl
  have hpl := hm.pl
  have hml := hm.wl
  repeat first
    | (apply WL.q; exact rfl; exact rfl; exact rfl; (first | (apply EvW.move; exact rfl) | (apply EvW.assign; exact rfl) | (apply EvW.nilPtr; exact rfl) | (apply EvW.fieldAddr0; exact rfl; exact FldC.eq) | (apply EvW.load; exact rfl; exact ScalC.eq; (focus ((repeat (first | exact Take.head | apply Take.tail)); done)); exact rfl) | (apply EvW.lenOwn; exact rfl; exact UndC.eq; (focus ((repeat (first | exact Take.head | apply Take.tail)); done)))))
    | refine WC.seq ?_ | refine WC.region ?_ | refine WL.nil ?_ | refine WE.next ?_ | refine WC.block ?_
  refine WC.loopK (σ := Nat × List Pg × List Int) [0, 3, 10] (fun s => [(11, i64 s.1)]) (fun s => [.blk r #[bv, wv, cv, i64 (m).ar, i64 (m).ac, .bool (m).off] 59, .own 31 1 bv 24 ((pgs).map pgV), sepL ((pgs).map (pgH 5)), .own 3 1 wv 24 ((m).worn.map i64), .blk r2 #[bv2, wv2, .slice none 0 0, i64 (Mem.new).ar, i64 (Mem.new).ac, .bool (Mem.new).off] 59, .own 31 1 bv2 24 ((s.2.1).map pgV), sepL ((s.2.1).map (pgH 5)), .own 3 1 wv2 24 ((s.2.2).map i64), .own 43 2 (.slice none 0 0) 0 []]) (fun s => s.1 ≤ 24 ∧ s.2.1.length = 24 ∧ s.2.1.map Pg.b = mix m.pages Mem.new.pages s.1 ∧ s.2.2 = mix m.worn Mem.new.worn s.1) (fun s => 24 - s.1) (0, pgs2, Mem.new.worn) (by (focus ((repeat (first | exact Pick.nil | (apply Pick.cons; exact rfl))); done))) (by (focus ((repeat (first | exact trivial | (refine ⟨rfl, ?_⟩))); done))) (fun _ h => h.keep (by (focus ((repeat (first | exact TakeL.nil | apply TakeL.cons | exact Take.head | apply Take.tail)); done)))) ⟨Nat.zero_le _, hln, by rw [mix_zero]; exact h2.eq, by rw [mix_zero]⟩ (fun s hs => ?_)
  obtain ⟨i, p2, ws⟩ := s
  simp only [List.cons_append, List.nil_append] at hs ⊢
  obtain ⟨hi, hl2, hb2, hws⟩ := hs
  by_cases hlt : (i : Int) < (24 : Nat)
  · have hi1 : i < pgs.length := by rw [hP.len]; omega
    have hi2 : i < p2.length := by omega
    have hout := hP.out (T := 5) (i : Int) (by omega)
    have hat := hP.at (i : Int) (by omega)
    have hout2 := pg_out (T := 5) hi2
    have hat2 := pg_at hi2
    have htk2 := pg_take (T := 5) hi2 (m.page (i : Int))
    have houtv := PgOk.outv (pgs := p2) i hi2 (m.page (i : Int))
    have hpn := (hm.page (p := (i : Int)) (by omega) (by omega)).2
    have hpb : (p2.set i ⟨(p2.getD i default).v, m.page (i : Int)⟩).map Pg.b = mix m.pages Mem.new.pages (i + 1) := by
      rw [List.map_set, hb2]
      exact mix_set (by omega) (by omega)
    have hwm := mix_set (a := m.worn) (b := Mem.new.worn) (k := i) (d := 0) (by omega) (by omega)
    rw [← hws] at hwm
    have hwsl : ws.length = 24 := by rw [hws]; exact mix_length hml hwl hi
    generalize (p2.getD i default).b = Q2 at hout2
    generalize hpp : p2.set i ⟨(p2.getD i default).v, m.page (i : Int)⟩ = p3 at htk2 houtv hpb
    have hp3 : p3.length = 24 := by rw [← hpp, List.length_set]; exact hl2
    generalize (p2.getD i default).v = v2 at hout2 hat2 htk2
    generalize (pgs.getD ((i : Nat) : Int).toNat default).v = v at hout hat
    generalize m.page (i : Int) = P at hout htk2 hpn
    rw [show ((i : Nat) : Int).toNat = i from rfl] at hout hat
    repeat first
      | (apply WL.q; exact rfl; exact rfl; exact rfl; (first | (apply EvW.move; exact rfl) | (apply EvW.assign; exact rfl) | (apply EvW.cmpT; exact rfl; exact rfl; exact rfl; omega)))
      | refine WC.seq ?_ | refine WC.region ?_ | refine WL.nil ?_ | refine WE.next ?_ | refine WC.block ?_ | refine WC.skip ?_ | refine WC.condT rfl ?_
    refine WC.out (by (focus ((repeat (first | exact Take.head | apply Take.tail)); done))) (take_at hout) ?_
    refine WC.out (by (focus ((repeat (first | exact Take.head | apply Take.tail)); done))) (take_at hout2) ?_
    repeat refine WC.seq ?_
    refine WC.keep (xs := [.blk r #[bv, wv, cv, i64 (m).ar, i64 (m).ac, .bool (m).off] 59, .own 31 1 bv 24 ((pgs).map pgV), .own 5 1 v 4096 ((P).map byt), sepL (((pgs).map (pgH 5)).eraseIdx i), .own 3 1 wv 24 ((m).worn.map i64), .blk r2 #[bv2, wv2, .slice none 0 0, i64 (Mem.new).ar, i64 (Mem.new).ac, .bool (Mem.new).off] 59, .own 31 1 bv2 24 ((p2).map pgV), .own 5 1 v2 4096 ((Q2).map byt), sepL (((p2).map (pgH 5)).eraseIdx i), .own 3 1 wv2 24 ((ws).map i64), .own 43 2 (.slice none 0 0) 0 []]) (by (focus ((repeat (first | exact TakeL.nil | apply TakeL.cons | exact Take.head | apply Take.tail)); done))) ?_
    apply WC.par _ (fun c : Ch => [.blk r #[bv, wv, cv, i64 (m).ar, i64 (m).ac, .bool (m).off] 59, .own 31 1 bv 24 ((pgs).map pgV), .own 5 1 v 4096 ((P).map byt), sepL (((pgs).map (pgH 5)).eraseIdx i), .own 3 1 wv 24 ((m).worn.map i64), .blk r2 #[bv2, wv2, .slice none 0 0, i64 (Mem.new).ar, i64 (Mem.new).ac, .bool (Mem.new).off] 59, .own 31 1 bv2 24 ((p2).map pgV), .own 5 1 v2 4096 ((Q2).map byt), .own 5 1 v2 4096 ((P).map byt), sepL (((p2).map (pgH 5)).eraseIdx i), .own 3 1 wv2 24 ((ws).map i64), .own 43 2 (.slice none 0 0) 0 []]) [none, none, none, none, none, none, none, none, some 14, none, none, none] [none, none, none, none, none, none, none, some 14, none, none, none, none] [] Try.mixed
    · (focus ((repeat (first | exact Restr.nil | (apply Restr.keep; exact rfl; exact rfl) | (apply Restr.drop; exact rfl))); done))
    · intro c; exact (by (focus ((repeat (first | exact SelT.nil | apply SelT.yes | apply SelT.no)); done)))
    · exact rfl
    · decide +kernel
    · decide +kernel
    · intro c
      (apply Par.quiet _ [true, true, true, true, true, true, true, true, false, true, true, true]; exact rfl; decide +kernel; exact rfl; intro R; refine ⟨_, (by (focus ((repeat (first | exact SelT.nil | apply SelT.yes | apply SelT.no)); done))), ?_⟩;
           (first | (apply EvW.move; exact rfl)))
      (apply Par.quiet _ [true, true, true, true, true, true, true, true, false, true, true, true]; exact rfl; decide +kernel; exact rfl; intro R; refine ⟨_, (by (focus ((repeat (first | exact SelT.nil | apply SelT.yes | apply SelT.no)); done))), ?_⟩;
           (first | (apply EvW.nilPtr; exact rfl)))
      (apply Par.quiet _ [true, true, true, true, true, true, true, true, false, true, true, true]; exact rfl; decide +kernel; exact rfl; intro R; refine ⟨_, (by (focus ((repeat (first | exact SelT.nil | apply SelT.yes | apply SelT.no)); done))), ?_⟩;
           (first | (apply EvW.fieldAddr0; exact rfl; exact FldC.eq)))
      (apply Par.quiet _ [true, true, true, true, true, true, true, true, false, true, true, true]; exact rfl; decide +kernel; exact rfl; intro R; refine ⟨_, (by (focus ((repeat (first | exact SelT.nil | apply SelT.yes | apply SelT.no)); done))), ?_⟩;
           (first | (apply EvW.load; exact rfl; exact ScalC.eq; (focus ((repeat (first | exact Take.head | apply Take.tail)); done)); exact rfl)))
      (apply Par.quiet _ [true, true, true, true, true, true, true, true, false, true, true, true]; exact rfl; decide +kernel; exact rfl; intro R; refine ⟨_, (by (focus ((repeat (first | exact SelT.nil | apply SelT.yes | apply SelT.no)); done))), ?_⟩;
           (first | (apply EvW.move; exact rfl)))
      (apply Par.quiet _ [true, true, true, true, true, true, true, true, false, true, true, true]; exact rfl; decide +kernel; exact rfl; intro R; refine ⟨_, (by (focus ((repeat (first | exact SelT.nil | apply SelT.yes | apply SelT.no)); done))), ?_⟩;
           (first | (apply EvW.idxOwn; exact rfl; exact rfl; exact UndC.eq; exact SzC.eq; (focus ((repeat (first | exact Take.head | apply Take.tail)); done)); omega; omega)))
      apply Par.quiet _ [true, true, true, true, true, true, true, true, false, true, true, true]
      · exact rfl
      · decide +kernel
      · exact rfl
      · intro R
        refine ⟨_, (by (focus ((repeat (first | exact SelT.nil | apply SelT.yes | apply SelT.no)); done))), ?_⟩
        (apply EvW.ldOwn (i := i) (off := 0) (q := v2); exact rfl; exact ScalC.eq; (focus ((repeat (first | exact Take.head | apply Take.tail)); done)); exact hat2)
      (apply Par.quiet _ [true, true, true, true, true, true, true, true, false, true, true, true]; exact rfl; decide +kernel; exact rfl; intro R; refine ⟨_, (by (focus ((repeat (first | exact SelT.nil | apply SelT.yes | apply SelT.no)); done))), ?_⟩;
           (first | (apply EvW.move; exact rfl)))
      (apply Par.quiet _ [true, true, true, true, true, true, true, true, false, true, true, true]; exact rfl; decide +kernel; exact rfl; intro R; refine ⟨_, (by (focus ((repeat (first | exact SelT.nil | apply SelT.yes | apply SelT.no)); done))), ?_⟩;
           (first | (apply EvW.nilPtr; exact rfl)))
      (apply Par.quiet _ [true, true, true, true, true, true, true, true, false, true, true, true]; exact rfl; decide +kernel; exact rfl; intro R; refine ⟨_, (by (focus ((repeat (first | exact SelT.nil | apply SelT.yes | apply SelT.no)); done))), ?_⟩;
           (first | (apply EvW.fieldAddr0; exact rfl; exact FldC.eq)))
      (apply Par.quiet _ [true, true, true, true, true, true, true, true, false, true, true, true]; exact rfl; decide +kernel; exact rfl; intro R; refine ⟨_, (by (focus ((repeat (first | exact SelT.nil | apply SelT.yes | apply SelT.no)); done))), ?_⟩;
           (first | (apply EvW.load; exact rfl; exact ScalC.eq; (focus ((repeat (first | exact Take.head | apply Take.tail)); done)); exact rfl)))
      (apply Par.quiet _ [true, true, true, true, true, true, true, true, false, true, true, true]; exact rfl; decide +kernel; exact rfl; intro R; refine ⟨_, (by (focus ((repeat (first | exact SelT.nil | apply SelT.yes | apply SelT.no)); done))), ?_⟩;
           (first | (apply EvW.move; exact rfl)))
      (apply Par.quiet _ [true, true, true, true, true, true, true, true, false, true, true, true]; exact rfl; decide +kernel; exact rfl; intro R; refine ⟨_, (by (focus ((repeat (first | exact SelT.nil | apply SelT.yes | apply SelT.no)); done))), ?_⟩;
           (first | (apply EvW.idxOwn; exact rfl; exact rfl; exact UndC.eq; exact SzC.eq; (focus ((repeat (first | exact Take.head | apply Take.tail)); done)); omega; omega)))
      apply Par.quiet _ [true, true, true, true, true, true, true, true, false, true, true, true]
      · exact rfl
      · decide +kernel
      · exact rfl
      · intro R
        refine ⟨_, (by (focus ((repeat (first | exact SelT.nil | apply SelT.yes | apply SelT.no)); done))), ?_⟩
        (apply EvW.ldOwn (i := i) (off := 0) (q := v); exact rfl; exact ScalC.eq; (focus ((repeat (first | exact Take.head | apply Take.tail)); done)); exact hat)
      apply Par.eff _ [false, false, false, false, false, false, false, true, false, false, false, false] [false, false, false, false, false, false, false, false, true, false, false, false] [true, true, true, true, true, true, true, false, false, true, true, true]
      · exact rfl
      · exact rfl
      · decide +kernel
      · intro R
        refine ⟨_, _, _, (by (focus ((repeat (first | exact SelT.nil | apply SelT.yes | apply SelT.no)); done))), (by (focus ((repeat (first | exact SelT.nil | apply SelT.yes | apply SelT.no)); done))), (by (focus ((repeat (first | exact SelT.nil | apply SelT.yes | apply SelT.no)); done))), ?_⟩
        (apply EffW.copyOwn (N := 4096) (scs := P.map byt); exact rfl; exact rfl; exact UndC.eq; exact SzC.eq; (focus ((repeat (first | exact Take.head | apply Take.tail)); done)); (focus ((repeat (first | exact Take.head | apply Take.tail)); done)); exact all_byt P; decide; (focus ((repeat (first | exact Take.head | apply Take.tail)); done)))
      exact Par.nil
    · repeat (first | exact AllN.nil | (apply AllN.cons; (intro c x; (repeat (first | exact IndA.nil | (apply IndA.skip; decide +kernel) | apply IndA.same))))) 
    · repeat (first | exact AllN.nil | (apply AllN.cons; (intro c x; (repeat (first | exact IndT.nil | (apply IndT.skip; decide +kernel) | apply IndT.same))))) 
    · exact fun _ => rfl
    intro c
    refine ⟨_, (by (focus ((repeat (first | exact SelT.nil | apply SelT.yes | apply SelT.no)); done))), ?_⟩
    apply WE.writ
    · (focus ((repeat (first | exact Writ.nil | apply Writ.some | apply Writ.none)); done))
    refine WE.back (by (focus ((repeat (first | exact TakeL.nil | apply TakeL.cons | exact Take.head | apply Take.tail)); done))) (take_at hout) ?_
    refine WE.back (by (focus ((repeat (first | exact TakeL.nil | apply TakeL.cons | exact Take.head | apply Take.tail)); done))) htk2 ?_
    repeat first
      | refine WE.next ?_
    repeat refine WC.seq ?_
    refine WC.keep (xs := [.blk r #[bv, wv, cv, i64 (m).ar, i64 (m).ac, .bool (m).off] 59, .own 31 1 bv 24 ((pgs).map pgV), sepL ((pgs).map (pgH 5)), .own 3 1 wv 24 ((m).worn.map i64), .blk r2 #[bv2, wv2, .slice none 0 0, i64 (Mem.new).ar, i64 (Mem.new).ac, .bool (Mem.new).off] 59, .own 31 1 bv2 24 ((p2).map pgV), sepL ((p3).map (pgH 5)), .own 3 1 wv2 24 ((ws).map i64), .own 43 2 (.slice none 0 0) 0 []]) (by (focus ((repeat (first | exact TakeL.nil | apply TakeL.cons | exact Take.head | apply Take.tail)); done))) ?_
    apply WC.par _ (fun c : Ch => [.blk r #[bv, wv, cv, i64 (m).ar, i64 (m).ac, .bool (m).off] 59, .own 31 1 bv 24 ((pgs).map pgV), sepL ((pgs).map (pgH 5)), .own 3 1 wv 24 ((m).worn.map i64), .blk r2 #[bv2, wv2, .slice none 0 0, i64 (Mem.new).ar, i64 (Mem.new).ac, .bool (Mem.new).off] 59, .own 31 1 bv2 24 ((p2).map pgV), sepL ((p3).map (pgH 5)), .own 3 1 wv2 24 ((ws).map i64), .own 3 1 wv2 24 ((mix m.worn Mem.new.worn (i + 1)).map i64), .own 43 2 (.slice none 0 0) 0 []]) [none, none, none, none, none, none, none, none, some 13, none] [none, none, none, none, none, none, none, some 13, none, none] [] Try.mixed
    · (focus ((repeat (first | exact Restr.nil | (apply Restr.keep; exact rfl; exact rfl) | (apply Restr.drop; exact rfl))); done))
    · intro c; exact (by (focus ((repeat (first | exact SelT.nil | apply SelT.yes | apply SelT.no)); done)))
    · exact rfl
    · decide +kernel
    · decide +kernel
    · intro c
      (apply Par.quiet _ [true, true, true, true, true, true, true, true, false, true]; exact rfl; decide +kernel; exact rfl; intro R; refine ⟨_, (by (focus ((repeat (first | exact SelT.nil | apply SelT.yes | apply SelT.no)); done))), ?_⟩;
           (first | (apply EvW.move; exact rfl)))
      (apply Par.quiet _ [true, true, true, true, true, true, true, true, false, true]; exact rfl; decide +kernel; exact rfl; intro R; refine ⟨_, (by (focus ((repeat (first | exact SelT.nil | apply SelT.yes | apply SelT.no)); done))), ?_⟩;
           (first | (apply EvW.nilPtr; exact rfl)))
      (apply Par.quiet _ [true, true, true, true, true, true, true, true, false, true]; exact rfl; decide +kernel; exact rfl; intro R; refine ⟨_, (by (focus ((repeat (first | exact SelT.nil | apply SelT.yes | apply SelT.no)); done))), ?_⟩;
           (first | (apply EvW.fieldAddr0; exact rfl; exact FldC.eq)))
      (apply Par.quiet _ [true, true, true, true, true, true, true, true, false, true]; exact rfl; decide +kernel; exact rfl; intro R; refine ⟨_, (by (focus ((repeat (first | exact SelT.nil | apply SelT.yes | apply SelT.no)); done))), ?_⟩;
           (first | (apply EvW.load; exact rfl; exact ScalC.eq; (focus ((repeat (first | exact Take.head | apply Take.tail)); done)); exact rfl)))
      (apply Par.quiet _ [true, true, true, true, true, true, true, true, false, true]; exact rfl; decide +kernel; exact rfl; intro R; refine ⟨_, (by (focus ((repeat (first | exact SelT.nil | apply SelT.yes | apply SelT.no)); done))), ?_⟩;
           (first | (apply EvW.move; exact rfl)))
      (apply Par.quiet _ [true, true, true, true, true, true, true, true, false, true]; exact rfl; decide +kernel; exact rfl; intro R; refine ⟨_, (by (focus ((repeat (first | exact SelT.nil | apply SelT.yes | apply SelT.no)); done))), ?_⟩;
           (first | (apply EvW.move; exact rfl)))
      (apply Par.quiet _ [true, true, true, true, true, true, true, true, false, true]; exact rfl; decide +kernel; exact rfl; intro R; refine ⟨_, (by (focus ((repeat (first | exact SelT.nil | apply SelT.yes | apply SelT.no)); done))), ?_⟩;
           (first | (apply EvW.nilPtr; exact rfl)))
      (apply Par.quiet _ [true, true, true, true, true, true, true, true, false, true]; exact rfl; decide +kernel; exact rfl; intro R; refine ⟨_, (by (focus ((repeat (first | exact SelT.nil | apply SelT.yes | apply SelT.no)); done))), ?_⟩;
           (first | (apply EvW.fieldAddr0; exact rfl; exact FldC.eq)))
      (apply Par.quiet _ [true, true, true, true, true, true, true, true, false, true]; exact rfl; decide +kernel; exact rfl; intro R; refine ⟨_, (by (focus ((repeat (first | exact SelT.nil | apply SelT.yes | apply SelT.no)); done))), ?_⟩;
           (first | (apply EvW.load; exact rfl; exact ScalC.eq; (focus ((repeat (first | exact Take.head | apply Take.tail)); done)); exact rfl)))
      (apply Par.quiet _ [true, true, true, true, true, true, true, true, false, true]; exact rfl; decide +kernel; exact rfl; intro R; refine ⟨_, (by (focus ((repeat (first | exact SelT.nil | apply SelT.yes | apply SelT.no)); done))), ?_⟩;
           (first | (apply EvW.move; exact rfl)))
      (apply Par.quiet _ [true, true, true, true, true, true, true, true, false, true]; exact rfl; decide +kernel; exact rfl; intro R; refine ⟨_, (by (focus ((repeat (first | exact SelT.nil | apply SelT.yes | apply SelT.no)); done))), ?_⟩;
           (first | (apply EvW.idxOwn; exact rfl; exact rfl; exact UndC.eq; exact SzC.eq; (focus ((repeat (first | exact Take.head | apply Take.tail)); done)); omega; omega)))
      (apply Par.quiet _ [true, true, true, true, true, true, true, true, false, true]; exact rfl; decide +kernel; exact rfl; intro R; refine ⟨_, (by (focus ((repeat (first | exact SelT.nil | apply SelT.yes | apply SelT.no)); done))), ?_⟩;
           (first | (apply EvW.ldIntOwn; exact rfl; exact ScalC.eq; (focus ((repeat (first | exact Take.head | apply Take.tail)); done)); omega)))
      (apply Par.quiet _ [true, true, true, true, true, true, true, true, false, true]; exact rfl; decide +kernel; exact rfl; intro R; refine ⟨_, (by (focus ((repeat (first | exact SelT.nil | apply SelT.yes | apply SelT.no)); done))), ?_⟩;
           (first | (apply EvW.idxOwn; exact rfl; exact rfl; exact UndC.eq; exact SzC.eq; (focus ((repeat (first | exact Take.head | apply Take.tail)); done)); omega; omega)))
      apply Par.eff _ [false, false, false, false, false, false, false, true, false, false] [false, false, false, false, false, false, false, false, true, false] [true, true, true, true, true, true, true, false, false, true]
      · exact rfl
      · exact rfl
      · decide +kernel
      · intro R
        refine ⟨_, _, _, (by (focus ((repeat (first | exact SelT.nil | apply SelT.yes | apply SelT.no)); done))), (by (focus ((repeat (first | exact SelT.nil | apply SelT.yes | apply SelT.no)); done))), (by (focus ((repeat (first | exact SelT.nil | apply SelT.yes | apply SelT.no)); done))), ?_⟩
        (apply EffW.stOwn; exact rfl; exact rfl; exact rfl; exact SzC.eq; exact rfl; exact rfl; exact .head; (rw [List.length_map, hwsl, List.length_singleton]; omega); (rw [over_one (by rw [List.length_map, hwsl]; omega), show ((i : Nat) : Int).toNat * 1 + 0 = i by omega, ← List.map_set, show ((i : Nat) : Int).toNat = i from rfl, hwm]; exact .head))
      exact Par.nil
    · repeat (first | exact AllN.nil | (apply AllN.cons; (intro c x; (repeat (first | exact IndA.nil | (apply IndA.skip; decide +kernel) | apply IndA.same))))) 
    · repeat (first | exact AllN.nil | (apply AllN.cons; (intro c x; (repeat (first | exact IndT.nil | (apply IndT.skip; decide +kernel) | apply IndT.same))))) 
    · exact fun _ => rfl
    intro c
    refine ⟨_, (by (focus ((repeat (first | exact SelT.nil | apply SelT.yes | apply SelT.no)); done))), ?_⟩
    apply WE.writ
    · (focus ((repeat (first | exact Writ.nil | apply Writ.some | apply Writ.none)); done))
    repeat first
      | (apply WL.q; exact rfl; exact rfl; exact rfl; (first | (apply EvW.move; exact rfl) | (apply EvW.arN; exact rfl; exact rfl; exact rfl; refine i64_in ?_ ?_ <;> omega)))
      | refine WC.region ?_ | refine WL.nil ?_ | refine WE.next ?_ | refine WE.out ?_
    exact WE.again (s := (i, p2, ws)) ((i + 1, p3, mix m.worn Mem.new.worn (i + 1))) ⟨by simp only []; omega, hp3, hpb, rfl⟩ (by (focus ((repeat (first | exact trivial | (refine ⟨rfl, ?_⟩))); done))) (fun _ h => (by (try simp only []); rw [houtv]; exact h.keep (by (focus ((repeat (first | exact TakeL.nil | apply TakeL.cons | exact Take.head | apply Take.tail)); done))))) (by (try simp only []); omega)
  · obtain rfl : i = 24 := by omega
    rw [mix_all hml hwl] at hws
    rw [mix_all hpl hnl] at hb2
    subst hws
    repeat first
      | (apply WL.q; exact rfl; exact rfl; exact rfl; (first | (apply EvW.move; exact rfl) | (apply EvW.assign; exact rfl) | (apply EvW.cmpF; exact rfl; exact rfl; exact rfl; omega)))
      | refine WC.seq ?_ | refine WC.region ?_ | refine WL.nil ?_ | refine WE.next ?_ | refine WC.exit ?_ | refine WE.pass ?_ | refine WE.hit ?_ | refine WC.condF rfl ?_ | refine WC.ret ?_
    refine WE.keep (xs := [.blk r2 #[bv2, wv2, .slice none 0 0, i64 (Mem.new).ar, i64 (Mem.new).ac, .bool (Mem.new).off] 59, .own 31 1 bv2 24 ((p2).map pgV), sepL ((p2).map (pgH 5)), .own 3 1 wv2 24 ((m.worn).map i64), .own 43 2 (.slice none 0 0) 0 []]) (by (focus ((repeat (first | exact TakeL.nil | apply TakeL.cons | exact Take.head | apply Take.tail)); done))) ?_
    refine WE.ret1 rfl rfl ?_
    exact ⟨r2, bv2, wv2, p2, rfl, rfl, ⟨hl2, hb2⟩⟩
end Go.Proofs.Ytakffjjnogpolaa
