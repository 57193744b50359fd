/- The document's memory of cells: what its calls do (1). -/
import Derived.Test.YtakffjjnogpolaaCellsI
import Derived.Test.YtakffjjnogpolaaLibY
namespace Go.Proofs.Ytakffjjnogpolaa
open Go.RowKit Go.BK

/-- A page of the document's memory: its list, its bytes. -/
structure Pg where
  v : Value
  b : List UInt8
instance : Inhabited Pg := ⟨⟨.slice none 0 0, []⟩⟩
def pgV (p : Pg) : Value := p.v
def pgH (T : TypeId) (p : Pg) : HP := .own T 1 p.v 4096 (p.b.map byt)
structure PgOk (pgs : List Pg) (m : Mem) : Prop where
  len : pgs.length = 24
  eq : pgs.map Pg.b = m.pages
theorem PgOk.page {pgs : List Pg} {m : Mem} (h : PgOk pgs m) (p : Int) (h0 : 0 ≤ p ∧ p < 24) : (pgs.getD p.toNat default).b = m.page p := by
  have hl : p.toNat < pgs.length := by rw [h.len]; omega
  unfold Mem.page
  rw [← h.eq, List.getD_eq_getElem?_getD, List.getD_eq_getElem?_getD, List.getElem?_map, List.getElem?_eq_getElem hl]; rfl
theorem PgOk.out {pgs : List Pg} {m : Mem} {T : TypeId} (h : PgOk pgs m) (p : Int) (h0 : 0 ≤ p ∧ p < 24) : (pgs.map (pgH T))[p.toNat]? = some (.own T 1 (pgs.getD p.toNat default).v 4096 ((m.page p).map byt)) := by
  have hl : p.toNat < pgs.length := by rw [h.len]; omega
  rw [List.getElem?_map, getD_some (d := default) hl, ← h.page p h0]; rfl
theorem PgOk.at {pgs : List Pg} {m : Mem} (h : PgOk pgs m) (p : Int) (h0 : 0 ≤ p ∧ p < 24) : (pgs.map pgV)[p.toNat * 1 + 0]? = some (pgs.getD p.toNat default).v := by
  have hl : p.toNat < pgs.length := by rw [h.len]; omega
  rw [Nat.mul_one, Nat.add_zero, List.getElem?_map, getD_some (d := default) hl]; rfl
/-- The cut that comes at an act, the least of them. -/
def cutStep (k : Int) (o : Option Int) (c : Cut) : Option Int := if c.at' = k then some (match o with
  | none => c.part
  | some q => if c.part < q then c.part else q) else o
def cutAt (k : Int) (cs : List Cut) : Option Int := cs.foldl (cutStep k) none
theorem cutAt_take (k : Int) (cs : List Cut) (i : Nat) (h : i < cs.length) : cutAt k (cs.take (i + 1)) = cutStep k (cutAt k (cs.take i)) (cs.getD i default) := by
  unfold cutAt
  rw [List.take_add_one, getD_some (d := default) h, List.foldl_append]; rfl
def mostS (o : Option Int) (n : Int) : Int := match o with
  | none => n
  | some p => min p n
theorem mostS_cut (o : Option Int) (n : Int) (h : 0 ≤ n) : (if mostS o n < 0 then 0 else mostS o n) = (cutF o n).1 := by
  cases o with
  | none => show (if n < 0 then 0 else n) = n; rw [if_neg (by omega)]
  | some p =>
    show (if min p n < 0 then 0 else min p n) = min (max p 0) n
    split <;> omega
theorem cut_less {k n part : Int} {x : Cut} {o : Option Int} (he : x.at' = k) (hp : part = mostS o n) (h : x.part < part) : x.part = mostS (cutStep k o x) n := by
  unfold cutStep
  rw [if_pos he]
  cases o with
  | none => rw [hp] at h; show x.part = min x.part n; unfold mostS at h; dsimp only at h; omega
  | some q =>
    rw [hp] at h
    unfold mostS at h ⊢
    dsimp only at h ⊢
    split <;> omega
theorem cut_more {k n part : Int} {x : Cut} {o : Option Int} (he : x.at' = k) (hp : part = mostS o n) (h : ¬ x.part < part) : part = mostS (cutStep k o x) n := by
  unfold cutStep
  rw [if_pos he]
  cases o with
  | none => rw [hp] at h ⊢; unfold mostS at h ⊢; dsimp only at h ⊢; omega
  | some q =>
    rw [hp] at h ⊢
    unfold mostS at h ⊢
    dsimp only at h ⊢
    split <;> omega
theorem there_spec (p pos : Int) (r : Bool) (w : World) (S : BSet) (hS : (sepL []).sat S w) (hr : decide (0 ≤ p ∧ p < 24 ∧ 0 ≤ pos ∧ pos ≤ 4096) = r) :
    Tri Try.prog 32 #[i64 p, i64 pos] w S fun u A => u = .bool r ∧ A = [] := by
  refine Tri.enter (l := [i64 p, i64 pos]) Try.func32 rfl Try.ntmps32 rfl [(0, i64 p), (1, i64 pos)] (subA rfl) hS ?_
  subst hr
  by_cases h1 : 0 ≤ p
  · by_cases h2 : p < 24
    · by_cases h3 : 0 ≤ pos
      · by_cases h4 : pos ≤ 4096
        · rw [decide_eq_true ⟨h1, h2, h3, h4⟩]
          repeat first
            | (apply WL.q; exact rfl; exact rfl; exact rfl; (first | (apply EvW.move; exact rfl) | (apply EvW.assign; exact rfl) | (apply EvW.cmpT; exact rfl; exact rfl; exact rfl; omega) | (apply EvW.pickT; exact rfl; exact rfl)))
            | refine WC.seq ?_ | refine WC.region ?_ | refine WL.nil ?_ | refine WE.next ?_ | refine WC.ret ?_ | refine WL.wanted rfl rfl rfl ?_
          refine WE.ret1 rfl rfl ?_
          exact ⟨rfl, rfl⟩
        · rw [decide_eq_false (fun h => h4 h.2.2.2)]
          repeat first
            | (apply WL.q; exact rfl; exact rfl; exact rfl; (first | (apply EvW.move; exact rfl) | (apply EvW.assign; exact rfl) | (apply EvW.cmpT; exact rfl; exact rfl; exact rfl; omega) | (apply EvW.cmpF; exact rfl; exact rfl; exact rfl; omega) | (apply EvW.pickT; exact rfl; exact rfl)))
            | refine WC.seq ?_ | refine WC.region ?_ | refine WL.nil ?_ | refine WE.next ?_ | refine WC.ret ?_ | refine WL.wanted rfl rfl rfl ?_
          refine WE.ret1 rfl rfl ?_
          exact ⟨rfl, rfl⟩
      · rw [decide_eq_false (fun h => h3 h.2.2.1)]
        repeat first
          | (apply WL.q; exact rfl; exact rfl; exact rfl; (first | (apply EvW.move; exact rfl) | (apply EvW.assign; exact rfl) | (apply EvW.cmpT; exact rfl; exact rfl; exact rfl; omega) | (apply EvW.cmpF; exact rfl; exact rfl; exact rfl; omega) | (apply EvW.pickT; exact rfl; exact rfl) | (apply EvW.pickF; exact rfl; exact rfl)))
          | refine WC.seq ?_ | refine WC.region ?_ | refine WL.nil ?_ | refine WE.next ?_ | refine WC.ret ?_ | refine WL.wanted rfl rfl rfl ?_ | refine WL.unwanted rfl rfl rfl rfl ?_
        refine WE.ret1 rfl rfl ?_
        exact ⟨rfl, rfl⟩
    · rw [decide_eq_false (fun h => h2 h.2.1)]
      repeat first
        | (apply WL.q; exact rfl; exact rfl; exact rfl; (first | (apply EvW.move; exact rfl) | (apply EvW.assign; exact rfl) | (apply EvW.cmpT; exact rfl; exact rfl; exact rfl; omega) | (apply EvW.cmpF; exact rfl; exact rfl; exact rfl; omega) | (apply EvW.pickT; exact rfl; exact rfl) | (apply EvW.pickF; exact rfl; exact rfl)))
        | refine WC.seq ?_ | refine WC.region ?_ | refine WL.nil ?_ | refine WE.next ?_ | refine WC.ret ?_ | refine WL.wanted rfl rfl rfl ?_ | refine WL.unwanted rfl rfl rfl rfl ?_
      refine WE.ret1 rfl rfl ?_
      exact ⟨rfl, rfl⟩
  · rw [decide_eq_false (fun h => h1 h.1)]
    repeat first
      | (apply WL.q; exact rfl; exact rfl; exact rfl; (first | (apply EvW.move; exact rfl) | (apply EvW.assign; exact rfl) | (apply EvW.cmpF; exact rfl; exact rfl; exact rfl; omega) | (apply EvW.pickF; exact rfl; exact rfl)))
      | refine WC.seq ?_ | refine WC.region ?_ | refine WL.nil ?_ | refine WE.next ?_ | refine WC.ret ?_ | refine WL.unwanted rfl rfl rfl rfl ?_
    refine WE.ret1 rfl rfl ?_
    exact ⟨rfl, rfl⟩
theorem there_place {m : Mem} {p pos : Int} (h : m.off = false) : decide (0 ≤ p ∧ p < 24 ∧ 0 ≤ pos ∧ pos ≤ 4096) = decide (m.place p pos = 0) := by
  by_cases h1 : 0 ≤ p ∧ p < 24 ∧ 0 ≤ pos ∧ pos ≤ 4096
  · rw [decide_eq_true h1, place_ok h ⟨h1.1, h1.2.1⟩ ⟨h1.2.2.1, h1.2.2.2⟩]; rfl
  · rw [decide_eq_false h1, place_no h (by omega)]; rfl
theorem most_spec (r : Nat) (bv wv cv : Value) (m : Mem) (cs : List Cut) (n : Int) (w : World) (S : BSet) (hS : (sepL [.blk r #[bv, wv, cv, i64 (m).ar, i64 (m).ac, .bool (m).off] 59, .own 43 2 cv (cs).length ((cs).flatMap cutC)]).sat S w) (hn : 0 ≤ n) (hoff : m.off = false) (hcl : cs.length ≤ 17592186044416) (h0 : 0 ≤ m.ar) (h1 : m.ar ≤ 4611686018427387904) (h2 : 0 ≤ m.ac) (h3 : m.ac ≤ 4611686018427387904) :
    Tri Try.prog 33 #[ptr r 0, i64 n] w S fun u A => u = .tuple #[i64 (cutF (cutAt m.ar cs) n).1, .bool (cutAt m.ar cs).isNone] ∧ A = [.blk r #[bv, wv, cv, i64 (m.act (cutAt m.ar cs)).ar, i64 (m.act (cutAt m.ar cs)).ac, .bool (m.act (cutAt m.ar cs)).off] 59, .own 43 2 cv (cs).length ((cs).flatMap cutC)] := by
  refine Tri.enter (l := [ptr r 0, i64 n]) Try.func33 rfl Try.ntmps33 rfl [(0, ptr r 0), (1, i64 n)] (subA rfl) hS ?_
  repeat first
    | (apply WL.q; exact rfl; exact rfl; exact rfl; (first | (apply EvW.move; exact rfl) | (apply EvW.assign; exact rfl) | (apply EvW.nilPtr; exact rfl) | (apply EvW.fieldAddr0; exact rfl; exact FldC.eq) | (apply EvW.load; exact rfl; exact ScalC.eq; (focus ((repeat (first | exact Take.head | apply Take.tail)); done)); exact rfl) | (apply EvW.lenOwn; exact rfl; exact UndC.eq; (focus ((repeat (first | exact Take.head | apply Take.tail)); done)))))
    | refine WC.seq ?_ | refine WC.region ?_ | refine WL.nil ?_ | refine WE.next ?_ | refine WC.block ?_
  refine WC.loopK (σ := Nat × Int × Bool) [0, 14, 15] (fun s => [(6, i64 s.2.1), (7, .bool s.2.2), (16, i64 s.1)]) (fun s => [.blk r #[bv, wv, cv, i64 (m).ar, i64 (m).ac, .bool (m).off] 59, .own 43 2 cv (cs).length ((cs).flatMap cutC)]) (fun s => s.1 ≤ cs.length ∧ s.2.1 = mostS (cutAt m.ar (cs.take s.1)) n ∧ s.2.2 = (cutAt m.ar (cs.take s.1)).isSome) (fun s => cs.length - s.1) (0, n, false) (by (focus ((repeat (first | exact Pick.nil | (apply Pick.cons; exact rfl))); done))) (by (focus ((repeat (first | exact trivial | (refine ⟨rfl, ?_⟩))); done))) (fun _ h => h.keep (by (focus ((repeat (first | exact TakeL.nil | apply TakeL.cons | exact Take.head | apply Take.tail)); done)))) ⟨Nat.zero_le _, rfl, rfl⟩ (fun s hs => ?_)
  obtain ⟨i, part, ct⟩ := s
  simp only [List.cons_append, List.nil_append] at hs ⊢
  obtain ⟨hi, hpt, hct⟩ := hs
  by_cases hlt : (i : Int) < cs.length
  · have hst := cutAt_take m.ar cs i (by omega)
    repeat first
      | (apply WL.q; exact rfl; exact rfl; exact rfl; (first | (apply EvW.cmpT; exact rfl; exact rfl; exact rfl; omega) | (apply EvW.idxOwn; exact rfl; exact rfl; exact UndC.eq; exact SzC.eq; (focus ((repeat (first | exact Take.head | apply Take.tail)); done)); omega; omega)))
      | refine WC.seq ?_ | refine WC.region ?_ | refine WL.nil ?_ | refine WE.next ?_ | refine WC.block ?_ | refine WC.skip ?_ | refine WC.condT rfl ?_
    try refine WL.wanted rfl rfl rfl ?_
    (apply WL.q; exact rfl; exact rfl; exact rfl; (apply EvW.ldElemOwn (xs := cs) (z := (default : Cut)) (f := cutC); exact rfl; exact AggC.eq; exact SzC.eq; exact rfl; exact fun _ => rfl; (focus ((repeat (first | exact Take.head | apply Take.tail)); done)); omega))
    rw [show ((i : Nat) : Int).toNat = i from rfl]
    generalize cs.getD i default = x at hst
    skip
    try refine WL.wanted rfl rfl rfl ?_
    (apply WL.alloc; exact rfl; exact ZvC.eq; exact rfl; intro z)
    by_cases he : x.at' = m.ar
    · by_cases hp : x.part < part
      · repeat first
          | refine WC.seq ?_ | refine WL.nil ?_ | refine WE.next ?_ | (apply WL.store; exact rfl; exact rfl; (first | assumption | exact rfl); exact SzC.eq; (first | assumption | exact rfl); (focus ((repeat (first | apply UpdC.head | apply UpdC.tail | exact SetMany.nil | apply SetMany.cons | apply SetMany.succ)); done)))
        repeat refine WC.seq ?_
        refine WC.keep (xs := [.blk r #[bv, wv, cv, i64 (m).ar, i64 (m).ac, .bool (m).off] 59, .own 43 2 cv (cs).length ((cs).flatMap cutC), .blk z #[i64 x.at', i64 x.part] 43]) (by (focus ((repeat (first | exact TakeL.nil | apply TakeL.cons | exact Take.head | apply Take.tail)); done))) ?_
        apply WC.par _ (fun c : Ch => [.blk r #[bv, wv, cv, i64 (m).ar, i64 (m).ac, .bool (m).off] 59, .own 43 2 cv (cs).length ((cs).flatMap cutC), .blk z #[i64 x.at', i64 x.part] 43]) [none, none, none] [none, none, none] [] Try.mixed
        · (focus ((repeat (first | exact Restr.nil | (apply Restr.keep; exact rfl; exact rfl) | (apply Restr.drop; exact rfl))); done))
        · intro c; exact (by (focus ((repeat (first | exact SelT.nil | apply SelT.yes | apply SelT.no)); done)))
        · exact rfl
        · decide +kernel
        · decide +kernel
        · intro c
          (apply Par.quiet _ [true, true, true]; exact rfl; decide +kernel; exact rfl; intro R; refine ⟨_, (by (focus ((repeat (first | exact SelT.nil | apply SelT.yes | apply SelT.no)); done))), ?_⟩;
               (first | (apply EvW.fieldAddr0; exact rfl; exact FldC.eq)))
          (apply Par.quiet _ [true, true, true]; exact rfl; decide +kernel; exact rfl; intro R; refine ⟨_, (by (focus ((repeat (first | exact SelT.nil | apply SelT.yes | apply SelT.no)); done))), ?_⟩;
               (first | (apply EvW.load; exact rfl; exact ScalC.eq; (focus ((repeat (first | exact Take.head | apply Take.tail)); done)); exact rfl)))
          (apply Par.quiet _ [true, true, true]; exact rfl; decide +kernel; exact rfl; intro R; refine ⟨_, (by (focus ((repeat (first | exact SelT.nil | apply SelT.yes | apply SelT.no)); done))), ?_⟩;
               (first | (apply EvW.move; exact rfl)))
          (apply Par.quiet _ [true, true, true]; exact rfl; decide +kernel; exact rfl; intro R; refine ⟨_, (by (focus ((repeat (first | exact SelT.nil | apply SelT.yes | apply SelT.no)); done))), ?_⟩;
               (first | (apply EvW.nilPtr; exact rfl)))
          (apply Par.quiet _ [true, true, true]; exact rfl; decide +kernel; exact rfl; intro R; refine ⟨_, (by (focus ((repeat (first | exact SelT.nil | apply SelT.yes | apply SelT.no)); done))), ?_⟩;
               (first | (apply EvW.fieldAddr0; exact rfl; exact FldC.eq)))
          (apply Par.quiet _ [true, true, true]; exact rfl; decide +kernel; exact rfl; intro R; refine ⟨_, (by (focus ((repeat (first | exact SelT.nil | apply SelT.yes | apply SelT.no)); done))), ?_⟩;
               (first | (apply EvW.load; exact rfl; exact ScalC.eq; (focus ((repeat (first | exact Take.head | apply Take.tail)); done)); exact rfl)))
          (apply Par.quiet _ [true, true, true]; exact rfl; decide +kernel; exact rfl; intro R; refine ⟨_, (by (focus ((repeat (first | exact SelT.nil | apply SelT.yes | apply SelT.no)); done))), ?_⟩;
               (first | (apply EvW.cmpT; exact rfl; exact rfl; exact rfl; omega)))
          exact Par.nil
        · repeat (first | exact AllN.nil | (apply AllN.cons; (intro c x; (repeat (first | exact IndA.nil | (apply IndA.skip; decide +kernel) | apply IndA.same))))) 
        · repeat (first | exact AllN.nil | (apply AllN.cons; (intro c x; (repeat (first | exact IndT.nil | (apply IndT.skip; decide +kernel) | apply IndT.same))))) 
        · exact fun _ => rfl
        intro c
        refine ⟨_, (by (focus ((repeat (first | exact SelT.nil | apply SelT.yes | apply SelT.no)); done))), ?_⟩
        apply WE.writ
        · (focus ((repeat (first | exact Writ.nil | apply Writ.some | apply Writ.none)); done))
        repeat first
          | (apply WL.q; exact rfl; exact rfl; exact rfl; (first | (apply EvW.move; exact rfl) | (apply EvW.assign; exact rfl) | (apply EvW.fieldAddr0; exact rfl; exact FldC.eq) | (apply EvW.load; exact rfl; exact ScalC.eq; (focus ((repeat (first | exact Take.head | apply Take.tail)); done)); exact rfl) | (apply EvW.cmpT; exact rfl; exact rfl; exact rfl; omega) | (apply EvW.arN; exact rfl; exact rfl; exact rfl; refine i64_in ?_ ?_ <;> omega)))
          | refine WC.seq ?_ | refine WC.region ?_ | refine WL.nil ?_ | refine WE.next ?_ | refine WE.out ?_ | refine WC.condT rfl ?_
        exact WE.again (s := (i, part, ct)) ((i + 1, x.part, true)) ⟨by simp only []; omega, by simp only []; rw [hst]; exact cut_less he hpt hp, by simp only []; rw [hst]; unfold cutStep; rw [if_pos he]; rfl⟩ (by (focus ((repeat (first | exact trivial | (refine ⟨rfl, ?_⟩))); done))) (fun _ h => (by (try simp only []); exact h.keep (by (focus ((repeat (first | exact TakeL.nil | apply TakeL.cons | exact Take.head | apply Take.tail)); done))))) (by (try simp only []); omega)
      · repeat first
          | refine WC.seq ?_ | refine WL.nil ?_ | refine WE.next ?_ | (apply WL.store; exact rfl; exact rfl; (first | assumption | exact rfl); exact SzC.eq; (first | assumption | exact rfl); (focus ((repeat (first | apply UpdC.head | apply UpdC.tail | exact SetMany.nil | apply SetMany.cons | apply SetMany.succ)); done)))
        repeat refine WC.seq ?_
        refine WC.keep (xs := [.blk r #[bv, wv, cv, i64 (m).ar, i64 (m).ac, .bool (m).off] 59, .own 43 2 cv (cs).length ((cs).flatMap cutC), .blk z #[i64 x.at', i64 x.part] 43]) (by (focus ((repeat (first | exact TakeL.nil | apply TakeL.cons | exact Take.head | apply Take.tail)); done))) ?_
        apply WC.par _ (fun c : Ch => [.blk r #[bv, wv, cv, i64 (m).ar, i64 (m).ac, .bool (m).off] 59, .own 43 2 cv (cs).length ((cs).flatMap cutC), .blk z #[i64 x.at', i64 x.part] 43]) [none, none, none] [none, none, none] [] Try.mixed
        · (focus ((repeat (first | exact Restr.nil | (apply Restr.keep; exact rfl; exact rfl) | (apply Restr.drop; exact rfl))); done))
        · intro c; exact (by (focus ((repeat (first | exact SelT.nil | apply SelT.yes | apply SelT.no)); done)))
        · exact rfl
        · decide +kernel
        · decide +kernel
        · intro c
          (apply Par.quiet _ [true, true, true]; exact rfl; decide +kernel; exact rfl; intro R; refine ⟨_, (by (focus ((repeat (first | exact SelT.nil | apply SelT.yes | apply SelT.no)); done))), ?_⟩;
               (first | (apply EvW.fieldAddr0; exact rfl; exact FldC.eq)))
          (apply Par.quiet _ [true, true, true]; exact rfl; decide +kernel; exact rfl; intro R; refine ⟨_, (by (focus ((repeat (first | exact SelT.nil | apply SelT.yes | apply SelT.no)); done))), ?_⟩;
               (first | (apply EvW.load; exact rfl; exact ScalC.eq; (focus ((repeat (first | exact Take.head | apply Take.tail)); done)); exact rfl)))
          (apply Par.quiet _ [true, true, true]; exact rfl; decide +kernel; exact rfl; intro R; refine ⟨_, (by (focus ((repeat (first | exact SelT.nil | apply SelT.yes | apply SelT.no)); done))), ?_⟩;
               (first | (apply EvW.move; exact rfl)))
          (apply Par.quiet _ [true, true, true]; exact rfl; decide +kernel; exact rfl; intro R; refine ⟨_, (by (focus ((repeat (first | exact SelT.nil | apply SelT.yes | apply SelT.no)); done))), ?_⟩;
               (first | (apply EvW.nilPtr; exact rfl)))
          (apply Par.quiet _ [true, true, true]; exact rfl; decide +kernel; exact rfl; intro R; refine ⟨_, (by (focus ((repeat (first | exact SelT.nil | apply SelT.yes | apply SelT.no)); done))), ?_⟩;
               (first | (apply EvW.fieldAddr0; exact rfl; exact FldC.eq)))
          (apply Par.quiet _ [true, true, true]; exact rfl; decide +kernel; exact rfl; intro R; refine ⟨_, (by (focus ((repeat (first | exact SelT.nil | apply SelT.yes | apply SelT.no)); done))), ?_⟩;
               (first | (apply EvW.load; exact rfl; exact ScalC.eq; (focus ((repeat (first | exact Take.head | apply Take.tail)); done)); exact rfl)))
          (apply Par.quiet _ [true, true, true]; exact rfl; decide +kernel; exact rfl; intro R; refine ⟨_, (by (focus ((repeat (first | exact SelT.nil | apply SelT.yes | apply SelT.no)); done))), ?_⟩;
               (first | (apply EvW.cmpT; exact rfl; exact rfl; exact rfl; omega)))
          exact Par.nil
        · repeat (first | exact AllN.nil | (apply AllN.cons; (intro c x; (repeat (first | exact IndA.nil | (apply IndA.skip; decide +kernel) | apply IndA.same))))) 
        · repeat (first | exact AllN.nil | (apply AllN.cons; (intro c x; (repeat (first | exact IndT.nil | (apply IndT.skip; decide +kernel) | apply IndT.same))))) 
        · exact fun _ => rfl
        intro c
        refine ⟨_, (by (focus ((repeat (first | exact SelT.nil | apply SelT.yes | apply SelT.no)); done))), ?_⟩
        apply WE.writ
        · (focus ((repeat (first | exact Writ.nil | apply Writ.some | apply Writ.none)); done))
        repeat first
          | (apply WL.q; exact rfl; exact rfl; exact rfl; (first | (apply EvW.move; exact rfl) | (apply EvW.assign; exact rfl) | (apply EvW.fieldAddr0; exact rfl; exact FldC.eq) | (apply EvW.load; exact rfl; exact ScalC.eq; (focus ((repeat (first | exact Take.head | apply Take.tail)); done)); exact rfl) | (apply EvW.cmpF; exact rfl; exact rfl; exact rfl; omega) | (apply EvW.arN; exact rfl; exact rfl; exact rfl; refine i64_in ?_ ?_ <;> omega)))
          | refine WC.seq ?_ | refine WC.region ?_ | refine WL.nil ?_ | refine WE.next ?_ | refine WC.skip ?_ | refine WE.out ?_ | refine WC.condT rfl ?_ | refine WC.condF rfl ?_
        exact WE.again (s := (i, part, ct)) ((i + 1, part, true)) ⟨by simp only []; omega, by simp only []; rw [hst]; exact cut_more he hpt hp, by simp only []; rw [hst]; unfold cutStep; rw [if_pos he]; rfl⟩ (by (focus ((repeat (first | exact trivial | (refine ⟨rfl, ?_⟩))); done))) (fun _ h => (by (try simp only []); exact h.keep (by (focus ((repeat (first | exact TakeL.nil | apply TakeL.cons | exact Take.head | apply Take.tail)); done))))) (by (try simp only []); omega)
    · repeat first
        | refine WC.seq ?_ | refine WL.nil ?_ | refine WE.next ?_ | (apply WL.store; exact rfl; exact rfl; (first | assumption | exact rfl); exact SzC.eq; (first | assumption | exact rfl); (focus ((repeat (first | apply UpdC.head | apply UpdC.tail | exact SetMany.nil | apply SetMany.cons | apply SetMany.succ)); done)))
      repeat refine WC.seq ?_
      refine WC.keep (xs := [.blk r #[bv, wv, cv, i64 (m).ar, i64 (m).ac, .bool (m).off] 59, .own 43 2 cv (cs).length ((cs).flatMap cutC), .blk z #[i64 x.at', i64 x.part] 43]) (by (focus ((repeat (first | exact TakeL.nil | apply TakeL.cons | exact Take.head | apply Take.tail)); done))) ?_
      apply WC.par _ (fun c : Ch => [.blk r #[bv, wv, cv, i64 (m).ar, i64 (m).ac, .bool (m).off] 59, .own 43 2 cv (cs).length ((cs).flatMap cutC), .blk z #[i64 x.at', i64 x.part] 43]) [none, none, none] [none, none, none] [] Try.mixed
      · (focus ((repeat (first | exact Restr.nil | (apply Restr.keep; exact rfl; exact rfl) | (apply Restr.drop; exact rfl))); done))
      · intro c; exact (by (focus ((repeat (first | exact SelT.nil | apply SelT.yes | apply SelT.no)); done)))
      · exact rfl
      · decide +kernel
      · decide +kernel
      · intro c
        (apply Par.quiet _ [true, true, true]; exact rfl; decide +kernel; exact rfl; intro R; refine ⟨_, (by (focus ((repeat (first | exact SelT.nil | apply SelT.yes | apply SelT.no)); done))), ?_⟩;
             (first | (apply EvW.fieldAddr0; exact rfl; exact FldC.eq)))
        (apply Par.quiet _ [true, true, true]; exact rfl; decide +kernel; exact rfl; intro R; refine ⟨_, (by (focus ((repeat (first | exact SelT.nil | apply SelT.yes | apply SelT.no)); done))), ?_⟩;
             (first | (apply EvW.load; exact rfl; exact ScalC.eq; (focus ((repeat (first | exact Take.head | apply Take.tail)); done)); exact rfl)))
        (apply Par.quiet _ [true, true, true]; exact rfl; decide +kernel; exact rfl; intro R; refine ⟨_, (by (focus ((repeat (first | exact SelT.nil | apply SelT.yes | apply SelT.no)); done))), ?_⟩;
             (first | (apply EvW.move; exact rfl)))
        (apply Par.quiet _ [true, true, true]; exact rfl; decide +kernel; exact rfl; intro R; refine ⟨_, (by (focus ((repeat (first | exact SelT.nil | apply SelT.yes | apply SelT.no)); done))), ?_⟩;
             (first | (apply EvW.nilPtr; exact rfl)))
        (apply Par.quiet _ [true, true, true]; exact rfl; decide +kernel; exact rfl; intro R; refine ⟨_, (by (focus ((repeat (first | exact SelT.nil | apply SelT.yes | apply SelT.no)); done))), ?_⟩;
             (first | (apply EvW.fieldAddr0; exact rfl; exact FldC.eq)))
        (apply Par.quiet _ [true, true, true]; exact rfl; decide +kernel; exact rfl; intro R; refine ⟨_, (by (focus ((repeat (first | exact SelT.nil | apply SelT.yes | apply SelT.no)); done))), ?_⟩;
             (first | (apply EvW.load; exact rfl; exact ScalC.eq; (focus ((repeat (first | exact Take.head | apply Take.tail)); done)); exact rfl)))
        (apply Par.quiet _ [true, true, true]; exact rfl; decide +kernel; exact rfl; intro R; refine ⟨_, (by (focus ((repeat (first | exact SelT.nil | apply SelT.yes | apply SelT.no)); done))), ?_⟩;
             (first | (apply EvW.cmpF; exact rfl; exact rfl; exact rfl; omega)))
        exact Par.nil
      · repeat (first | exact AllN.nil | (apply AllN.cons; (intro c x; (repeat (first | exact IndA.nil | (apply IndA.skip; decide +kernel) | apply IndA.same))))) 
      · repeat (first | exact AllN.nil | (apply AllN.cons; (intro c x; (repeat (first | exact IndT.nil | (apply IndT.skip; decide +kernel) | apply IndT.same))))) 
      · exact fun _ => rfl
      intro c
      refine ⟨_, (by (focus ((repeat (first | exact SelT.nil | apply SelT.yes | apply SelT.no)); done))), ?_⟩
      apply WE.writ
      · (focus ((repeat (first | exact Writ.nil | apply Writ.some | apply Writ.none)); done))
      repeat first
        | (apply WL.q; exact rfl; exact rfl; exact rfl; (first | (apply EvW.move; exact rfl) | (apply EvW.arN; exact rfl; exact rfl; exact rfl; refine i64_in ?_ ?_ <;> omega)))
        | refine WC.region ?_ | refine WL.nil ?_ | refine WE.next ?_ | refine WC.skip ?_ | refine WE.out ?_ | refine WC.condF rfl ?_
      exact WE.again (s := (i, part, ct)) ((i + 1, part, ct)) ⟨by simp only []; omega, by simp only []; rw [hst]; unfold cutStep; rw [if_neg he]; exact hpt, by simp only []; rw [hst]; unfold cutStep; rw [if_neg he]; exact hct⟩ (by (focus ((repeat (first | exact trivial | (refine ⟨rfl, ?_⟩))); done))) (fun _ h => (by (try simp only []); exact h.keep (by (focus ((repeat (first | exact TakeL.nil | apply TakeL.cons | exact Take.head | apply Take.tail)); done))))) (by (try simp only []); omega)
  · obtain rfl : i = cs.length := by omega
    rw [List.take_length] at hpt hct
    have hmc := mostS_cut (cutAt m.ar cs) n hn
    rw [← hpt] at hmc
    have hcn : (cutAt m.ar cs).isNone = !ct := by rw [hct]; cases cutAt m.ar cs <;> rfl
    have hof : (m.off || (cutAt m.ar cs).isSome) = ct := by rw [hoff, ← hct]; rfl
    rw [hcn, hoff]
    by_cases hneg : part < 0
    · rw [if_pos hneg] at hmc
      rw [← hmc]
      cases ct with
      | true =>
        repeat first
          | (apply WL.q; exact rfl; exact rfl; exact rfl; (first | (apply EvW.move; exact rfl) | (apply EvW.assign; exact rfl) | (apply EvW.nilPtr; exact rfl) | (apply EvW.fieldAddr0; exact rfl; exact FldC.eq) | (apply EvW.load; exact rfl; exact ScalC.eq; (focus ((repeat (first | exact Take.head | apply Take.tail)); done)); exact rfl) | (apply EvW.cmpT; exact rfl; exact rfl; exact rfl; omega) | (apply EvW.cmpF; exact rfl; exact rfl; exact rfl; omega) | (apply EvW.arN; exact rfl; exact rfl; exact rfl; refine i64_in ?_ ?_ <;> omega) | (apply EvW.pickF; exact rfl; exact rfl) | (apply EvW.notT; exact rfl)))
          | refine WC.seq ?_ | refine WC.region ?_ | refine WL.nil ?_ | refine WE.next ?_ | refine WC.exit ?_ | refine WE.pass ?_ | refine WE.hit ?_ | refine WC.condT rfl ?_ | refine WC.condF rfl ?_ | refine WC.ret ?_ | refine WL.wanted rfl rfl rfl ?_ | (apply WL.store; exact rfl; exact rfl; (first | assumption | exact rfl); exact SzC.eq; (first | assumption | exact rfl); (focus ((repeat (first | apply UpdC.head | apply UpdC.tail | exact SetMany.nil | apply SetMany.cons | apply SetMany.succ)); done)))
        refine WE.retN (l := [4, 5]) rfl rfl rfl ?_
        exact ⟨rfl, by show _ = [HP.blk r #[bv, wv, cv, i64 (m.ar + 1), i64 (m.ac + 1), .bool (m.off || (cutAt m.ar cs).isSome)] _, _]; rw [hof]⟩
      | false =>
        repeat first
          | (apply WL.q; exact rfl; exact rfl; exact rfl; (first | (apply EvW.move; exact rfl) | (apply EvW.assign; exact rfl) | (apply EvW.nilPtr; exact rfl) | (apply EvW.fieldAddr0; exact rfl; exact FldC.eq) | (apply EvW.load; exact rfl; exact ScalC.eq; (focus ((repeat (first | exact Take.head | apply Take.tail)); done)); exact rfl) | (apply EvW.cmpT; exact rfl; exact rfl; exact rfl; omega) | (apply EvW.cmpF; exact rfl; exact rfl; exact rfl; omega) | (apply EvW.arN; exact rfl; exact rfl; exact rfl; refine i64_in ?_ ?_ <;> omega) | (apply EvW.pickF; exact rfl; exact rfl) | (apply EvW.notF; exact rfl)))
          | refine WC.seq ?_ | refine WC.region ?_ | refine WL.nil ?_ | refine WE.next ?_ | refine WC.exit ?_ | refine WE.pass ?_ | refine WE.hit ?_ | refine WC.condT rfl ?_ | refine WC.condF rfl ?_ | refine WC.ret ?_ | refine WL.wanted rfl rfl rfl ?_ | (apply WL.store; exact rfl; exact rfl; (first | assumption | exact rfl); exact SzC.eq; (first | assumption | exact rfl); (focus ((repeat (first | apply UpdC.head | apply UpdC.tail | exact SetMany.nil | apply SetMany.cons | apply SetMany.succ)); done)))
        refine WE.retN (l := [4, 5]) rfl rfl rfl ?_
        exact ⟨rfl, by show _ = [HP.blk r #[bv, wv, cv, i64 (m.ar + 1), i64 (m.ac + 1), .bool (m.off || (cutAt m.ar cs).isSome)] _, _]; rw [hof]⟩
    · rw [if_neg hneg] at hmc
      rw [← hmc]
      cases ct with
      | true =>
        repeat first
          | (apply WL.q; exact rfl; exact rfl; exact rfl; (first | (apply EvW.move; exact rfl) | (apply EvW.assign; exact rfl) | (apply EvW.nilPtr; exact rfl) | (apply EvW.fieldAddr0; exact rfl; exact FldC.eq) | (apply EvW.load; exact rfl; exact ScalC.eq; (focus ((repeat (first | exact Take.head | apply Take.tail)); done)); exact rfl) | (apply EvW.cmpF; exact rfl; exact rfl; exact rfl; omega) | (apply EvW.arN; exact rfl; exact rfl; exact rfl; refine i64_in ?_ ?_ <;> omega) | (apply EvW.pickF; exact rfl; exact rfl) | (apply EvW.notT; exact rfl)))
          | refine WC.seq ?_ | refine WC.region ?_ | refine WL.nil ?_ | refine WE.next ?_ | refine WC.skip ?_ | refine WC.exit ?_ | refine WE.pass ?_ | refine WE.hit ?_ | refine WC.condF rfl ?_ | refine WC.ret ?_ | refine WL.wanted rfl rfl rfl ?_ | (apply WL.store; exact rfl; exact rfl; (first | assumption | exact rfl); exact SzC.eq; (first | assumption | exact rfl); (focus ((repeat (first | apply UpdC.head | apply UpdC.tail | exact SetMany.nil | apply SetMany.cons | apply SetMany.succ)); done)))
        refine WE.retN (l := [4, 5]) rfl rfl rfl ?_
        exact ⟨rfl, by show _ = [HP.blk r #[bv, wv, cv, i64 (m.ar + 1), i64 (m.ac + 1), .bool (m.off || (cutAt m.ar cs).isSome)] _, _]; rw [hof]⟩
      | false =>
        repeat first
          | (apply WL.q; exact rfl; exact rfl; exact rfl; (first | (apply EvW.move; exact rfl) | (apply EvW.assign; exact rfl) | (apply EvW.nilPtr; exact rfl) | (apply EvW.fieldAddr0; exact rfl; exact FldC.eq) | (apply EvW.load; exact rfl; exact ScalC.eq; (focus ((repeat (first | exact Take.head | apply Take.tail)); done)); exact rfl) | (apply EvW.cmpF; exact rfl; exact rfl; exact rfl; omega) | (apply EvW.arN; exact rfl; exact rfl; exact rfl; refine i64_in ?_ ?_ <;> omega) | (apply EvW.pickF; exact rfl; exact rfl) | (apply EvW.notF; exact rfl)))
          | refine WC.seq ?_ | refine WC.region ?_ | refine WL.nil ?_ | refine WE.next ?_ | refine WC.skip ?_ | refine WC.exit ?_ | refine WE.pass ?_ | refine WE.hit ?_ | refine WC.condF rfl ?_ | refine WC.ret ?_ | refine WL.wanted rfl rfl rfl ?_ | (apply WL.store; exact rfl; exact rfl; (first | assumption | exact rfl); exact SzC.eq; (first | assumption | exact rfl); (focus ((repeat (first | apply UpdC.head | apply UpdC.tail | exact SetMany.nil | apply SetMany.cons | apply SetMany.succ)); done)))
        refine WE.retN (l := [4, 5]) rfl rfl rfl ?_
        exact ⟨rfl, by show _ = [HP.blk r #[bv, wv, cv, i64 (m.ar + 1), i64 (m.ac + 1), .bool (m.off || (cutAt m.ar cs).isSome)] _, _]; rw [hof]⟩
theorem rread_spec (r : Nat) (bv wv cv : Value) (pgs : List Pg) (m : Mem) (K : Nat) (p pos n : Int) (w : World) (S : BSet) (hS : (sepL [.blk r #[bv, wv, cv, i64 (m).ar, i64 (m).ac, .bool (m).off] 59, .own 31 1 bv 24 ((pgs).map pgV), sepL ((pgs).map (pgH 5))]).sat S w) (hm : m.wf K) (hP : PgOk pgs m) :
    Tri Try.prog 22 #[ptr r 0, i64 p, i64 pos, i64 n] w S fun u A => u = .tuple #[str (m.read p pos n).1, i64 (m.read p pos n).2] ∧ A = [.blk r #[bv, wv, cv, i64 (m).ar, i64 (m).ac, .bool (m).off] 59, .own 31 1 bv 24 ((pgs).map pgV), sepL ((pgs).map (pgH 5))] := by
  refine Tri.enter (l := [ptr r 0, i64 p, i64 pos, i64 n]) Try.func22 rfl Try.ntmps22 rfl [(0, ptr r 0), (1, i64 p), (2, i64 pos), (3, i64 n)] (subA rfl) hS ?_
  unfold Mem.read
  cases hoff : m.off with
  | true =>
    rw [place_off hoff, if_pos (by decide)]
    repeat first
      | (apply WL.q; exact rfl; exact rfl; exact rfl; (first | (apply EvW.move; exact rfl) | (apply EvW.assign; exact rfl) | (apply EvW.nilPtr; exact rfl) | (apply EvW.fieldAddr0; exact rfl; exact FldC.eq) | (apply EvW.load; exact rfl; exact ScalC.eq; (focus ((repeat (first | exact Take.head | apply Take.tail)); done)); exact rfl)))
      | refine WC.seq ?_ | refine WC.region ?_ | refine WL.nil ?_ | refine WE.next ?_ | refine WC.condT rfl ?_ | refine WC.ret ?_ | refine WE.passRet ?_
    refine WE.retN (l := [8, 9]) rfl rfl rfl ?_
    exact ⟨rfl, rfl⟩
  | false =>
    have hth := there_place (p := p) (pos := pos) hoff
    by_cases hpl : m.place p pos = 0
    rotate_left
    · rw [if_pos hpl]
      rw [decide_eq_false hpl] at hth
      have h20 : m.place p pos = 20 := by
        unfold Mem.place at hpl ⊢
        rw [if_neg (by rw [hoff]; decide)] at hpl ⊢
        split at hpl
        · rename_i h; rw [if_pos h]
        · exact absurd rfl hpl
      rw [h20]
      repeat first
        | (apply WL.q; exact rfl; exact rfl; exact rfl; (first | (apply EvW.move; exact rfl) | (apply EvW.assign; exact rfl) | (apply EvW.nilPtr; exact rfl) | (apply EvW.fieldAddr0; exact rfl; exact FldC.eq) | (apply EvW.load; exact rfl; exact ScalC.eq; (focus ((repeat (first | exact Take.head | apply Take.tail)); done)); exact rfl)))
        | refine WC.seq ?_ | refine WC.region ?_ | refine WL.nil ?_ | refine WE.next ?_ | refine WC.skip ?_ | refine WC.condF rfl ?_
      try refine WL.wanted rfl rfl rfl ?_
      apply WL.callA ([])
      · exact rfl
      · exact rfl
      · exact fun w => Try.call32 _ w
      · (focus ((repeat (first | exact TakeL.nil | apply TakeL.cons | exact Take.head | apply Take.tail)); done))
      · exact fun w1 S1 hS1 hs1 ho1 => there_spec p pos false w1 S1 hS1 hth
      rintro _ _ ⟨rfl, rfl⟩
      first | refine WL.app4 ?_ | refine WL.app3 ?_ | refine WL.app2 ?_ | refine WL.app1 ?_ | refine WL.app0 ?_ | skip
      repeat first
        | (apply WL.q; exact rfl; exact rfl; exact rfl; (first | (apply EvW.assign; exact rfl) | (apply EvW.notF; exact rfl)))
        | refine WC.seq ?_ | refine WC.region ?_ | refine WL.nil ?_ | refine WE.next ?_ | refine WC.condT rfl ?_ | refine WC.ret ?_ | refine WE.passRet ?_
      refine WE.retN (l := [8, 9]) rfl rfl rfl ?_
      exact ⟨rfl, rfl⟩
    rw [if_neg (fun h => h hpl)]
    rw [decide_eq_true hpl] at hth
    obtain ⟨_, hp, hpos⟩ := place_zero hpl
    have hp2 := (hm.page hp.1 hp.2).2
    by_cases h1 : n < 0
    · rw [if_pos (.inl h1)]
      repeat first
        | (apply WL.q; exact rfl; exact rfl; exact rfl; (first | (apply EvW.move; exact rfl) | (apply EvW.assign; exact rfl) | (apply EvW.nilPtr; exact rfl) | (apply EvW.fieldAddr0; exact rfl; exact FldC.eq) | (apply EvW.load; exact rfl; exact ScalC.eq; (focus ((repeat (first | exact Take.head | apply Take.tail)); done)); exact rfl)))
        | refine WC.seq ?_ | refine WC.region ?_ | refine WL.nil ?_ | refine WE.next ?_ | refine WC.skip ?_ | refine WC.condF rfl ?_
      try refine WL.wanted rfl rfl rfl ?_
      apply WL.callA ([])
      · exact rfl
      · exact rfl
      · exact fun w => Try.call32 _ w
      · (focus ((repeat (first | exact TakeL.nil | apply TakeL.cons | exact Take.head | apply Take.tail)); done))
      · exact fun w1 S1 hS1 hs1 ho1 => there_spec p pos true w1 S1 hS1 hth
      rintro _ _ ⟨rfl, rfl⟩
      first | refine WL.app4 ?_ | refine WL.app3 ?_ | refine WL.app2 ?_ | refine WL.app1 ?_ | refine WL.app0 ?_ | skip
      repeat first
        | (apply WL.q; exact rfl; exact rfl; exact rfl; (first | (apply EvW.move; exact rfl) | (apply EvW.assign; exact rfl) | (apply EvW.cmpT; exact rfl; exact rfl; exact rfl; omega) | (apply EvW.pickT; exact rfl; exact rfl) | (apply EvW.notT; exact rfl)))
        | refine WC.seq ?_ | refine WC.region ?_ | refine WL.nil ?_ | refine WE.next ?_ | refine WC.skip ?_ | refine WC.condT rfl ?_ | refine WC.condF rfl ?_ | refine WC.ret ?_ | refine WE.passRet ?_ | refine WL.unwanted rfl rfl rfl rfl ?_
      refine WE.retN (l := [8, 9]) rfl rfl rfl ?_
      exact ⟨rfl, rfl⟩
    by_cases h2 : 4096 - pos < n
    · rw [if_pos (.inr h2)]
      repeat first
        | (apply WL.q; exact rfl; exact rfl; exact rfl; (first | (apply EvW.move; exact rfl) | (apply EvW.assign; exact rfl) | (apply EvW.nilPtr; exact rfl) | (apply EvW.fieldAddr0; exact rfl; exact FldC.eq) | (apply EvW.load; exact rfl; exact ScalC.eq; (focus ((repeat (first | exact Take.head | apply Take.tail)); done)); exact rfl)))
        | refine WC.seq ?_ | refine WC.region ?_ | refine WL.nil ?_ | refine WE.next ?_ | refine WC.skip ?_ | refine WC.condF rfl ?_
      try refine WL.wanted rfl rfl rfl ?_
      apply WL.callA ([])
      · exact rfl
      · exact rfl
      · exact fun w => Try.call32 _ w
      · (focus ((repeat (first | exact TakeL.nil | apply TakeL.cons | exact Take.head | apply Take.tail)); done))
      · exact fun w1 S1 hS1 hs1 ho1 => there_spec p pos true w1 S1 hS1 hth
      rintro _ _ ⟨rfl, rfl⟩
      first | refine WL.app4 ?_ | refine WL.app3 ?_ | refine WL.app2 ?_ | refine WL.app1 ?_ | refine WL.app0 ?_ | skip
      repeat first
        | (apply WL.q; exact rfl; exact rfl; exact rfl; (first | (apply EvW.move; exact rfl) | (apply EvW.assign; exact rfl) | (apply EvW.cmpT; exact rfl; exact rfl; exact rfl; omega) | (apply EvW.cmpF; exact rfl; exact rfl; exact rfl; omega) | (apply EvW.arN; exact rfl; exact rfl; exact rfl; refine i64_in ?_ ?_ <;> omega) | (apply EvW.pickF; exact rfl; exact rfl) | (apply EvW.notT; exact rfl)))
        | refine WC.seq ?_ | refine WC.region ?_ | refine WL.nil ?_ | refine WE.next ?_ | refine WC.skip ?_ | refine WC.condT rfl ?_ | refine WC.condF rfl ?_ | refine WC.ret ?_ | refine WE.passRet ?_ | refine WL.wanted rfl rfl rfl ?_
      refine WE.retN (l := [8, 9]) rfl rfl rfl ?_
      exact ⟨rfl, rfl⟩
    rw [if_neg (by omega)]
    have hout := hP.out (T := 5) p hp
    have hat := hP.at p hp
    generalize (pgs.getD p.toNat default).v = v at hout hat
    repeat first
      | (apply WL.q; exact rfl; exact rfl; exact rfl; (first | (apply EvW.move; exact rfl) | (apply EvW.assign; exact rfl) | (apply EvW.nilPtr; exact rfl) | (apply EvW.fieldAddr0; exact rfl; exact FldC.eq) | (apply EvW.load; exact rfl; exact ScalC.eq; (focus ((repeat (first | exact Take.head | apply Take.tail)); done)); exact rfl)))
      | refine WC.seq ?_ | refine WC.region ?_ | refine WL.nil ?_ | refine WE.next ?_ | refine WC.skip ?_ | refine WC.condF rfl ?_
    try refine WL.wanted rfl rfl rfl ?_
    apply WL.callA ([])
    · exact rfl
    · exact rfl
    · exact fun w => Try.call32 _ w
    · (focus ((repeat (first | exact TakeL.nil | apply TakeL.cons | exact Take.head | apply Take.tail)); done))
    · exact fun w1 S1 hS1 hs1 ho1 => there_spec p pos true w1 S1 hS1 hth
    rintro _ _ ⟨rfl, rfl⟩
    first | refine WL.app4 ?_ | refine WL.app3 ?_ | refine WL.app2 ?_ | refine WL.app1 ?_ | refine WL.app0 ?_ | skip
    repeat first
      | (apply WL.q; exact rfl; exact rfl; exact rfl; (first | (apply EvW.move; exact rfl) | (apply EvW.nilPtr; exact rfl) | (apply EvW.fieldAddr0; exact rfl; exact FldC.eq) | (apply EvW.load; exact rfl; exact ScalC.eq; (focus ((repeat (first | exact Take.head | apply Take.tail)); done)); exact rfl) | (apply EvW.cmpF; exact rfl; exact rfl; exact rfl; omega) | (apply EvW.arN; exact rfl; exact rfl; exact rfl; refine i64_in ?_ ?_ <;> omega) | (apply EvW.pickF; exact rfl; exact rfl) | (apply EvW.notT; exact rfl) | (apply EvW.idxOwn; exact rfl; exact rfl; exact UndC.eq; exact SzC.eq; (focus ((repeat (first | exact Take.head | apply Take.tail)); done)); omega; omega)))
      | refine WC.seq ?_ | refine WC.region ?_ | refine WL.nil ?_ | refine WE.next ?_ | refine WC.skip ?_ | refine WC.condF rfl ?_ | refine WL.wanted rfl rfl rfl ?_
    refine WL.out (by (focus ((repeat (first | exact Take.head | apply Take.tail)); done))) (take_at hout) ?_
    try refine WL.wanted rfl rfl rfl ?_
    (apply WL.q; exact rfl; exact rfl; exact rfl; (apply EvW.ldOwn (i := p.toNat) (off := 0) (q := v); exact rfl; exact ScalC.eq; (focus ((repeat (first | exact Take.head | apply Take.tail)); done)); exact hat))
    repeat first
      | (apply WL.q; exact rfl; exact rfl; exact rfl; (first | (apply EvW.move; exact rfl) | (apply EvW.arN; exact rfl; exact rfl; exact rfl; refine i64_in ?_ ?_ <;> omega)))
    (apply WL.q; exact rfl; exact rfl; exact rfl; (apply EvW.sliceOwn; exact rfl; (focus ((repeat (first | exact Take.head | apply Take.tail)); done)); exact UndC.eq; exact SzC.eq; exact rfl; exact rfl; omega; omega; omega))
    (apply WL.q; exact rfl; exact rfl; exact rfl; (apply EvW.strSubOwn; exact rfl; exact UndC.eq; exact UndC.eq; exact UndC.eq; (focus ((repeat (first | exact Take.head | apply Take.tail)); done)); omega; omega))
    refine WL.back (by (focus ((repeat (first | exact TakeL.nil | apply TakeL.cons | exact Take.head | apply Take.tail)); done))) (take_at hout) ?_
    repeat first
      | (apply WL.q; exact rfl; exact rfl; exact rfl; (first | (apply EvW.assign; exact rfl)))
      | refine WL.nil ?_ | refine WE.next ?_ | refine WC.ret ?_
    refine WE.keep (xs := [.blk r #[bv, wv, cv, i64 m.ar, i64 m.ac, .bool false] 59, .own 31 1 bv 24 ((pgs).map pgV), sepL ((pgs).map (pgH 5))]) (by (focus ((repeat (first | exact TakeL.nil | apply TakeL.cons | exact Take.head | apply Take.tail)); done))) ?_
    refine WE.retN (l := [8, 9]) rfl rfl rfl ?_
    exact ⟨rfl, rfl⟩
end Go.Proofs.Ytakffjjnogpolaa
