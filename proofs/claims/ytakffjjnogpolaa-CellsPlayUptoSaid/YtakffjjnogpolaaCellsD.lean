/- A memory of cells: a new one, the one that is found when the power is back, the arming. -/
import Derived.Test.YtakffjjnogpolaaCellsC
namespace Go.Proofs.Ytakffjjnogpolaa
open Go.RowKit Go.BK

def fillP (i : Nat) : List (List UInt8) := List.replicate i (bareB 4096) ++ List.replicate (24 - i) []
theorem fillP_length (i : Nat) (h : i ≤ 24) : (fillP i).length = 24 := by unfold fillP; rw [List.length_append, List.length_replicate, List.length_replicate]; omega
theorem fillP_set (i : Nat) (h : i < 24) : (fillP i).set i (bareB 4096) = fillP (i + 1) := by
  unfold fillP
  rw [List.set_append_right _ _ (by rw [List.length_replicate]; exact Nat.le_refl _), List.length_replicate, Nat.sub_self, show 24 - i = (24 - (i + 1)) + 1 by omega, List.replicate_succ, List.set_cons_zero, List.replicate_succ', List.append_assoc]
  rfl
theorem fillP_all : fillP 24 = List.replicate 24 (bareB 4096) := by unfold fillP; rw [Nat.sub_self, List.replicate_zero, List.append_nil]
theorem getD_rep {α : Type} (n : Nat) (a d : α) {i : Nat} (h : i < n) : (List.replicate n a).getD i d = a := by
  rw [List.getD_eq_getElem?_getD, List.getElem?_replicate_of_lt h]; rfl
theorem new_wf : Mem.new.wf 0 := ⟨by decide, by decide, by decide, by decide, rfl, rfl, fun i h => by
  show ((List.replicate 24 (bareB 4096)).getD i []).length = 4096
  rw [getD_rep 24 _ _ h, bareB_length], fun i h => by
  show 0 ≤ (List.replicate 24 (0 : Int)).getD i 0 ∧ (List.replicate 24 (0 : Int)).getD i 0 ≤ ((0 : Nat) : Int)
  rw [getD_rep 24 _ _ h]; decide⟩
theorem sub_pages {x0 x1 x2 x3 : Value} {ps : List (List UInt8)} {r : List Value} (h : ps.length = 24) : SubL (x0 :: x1 :: x2 :: x3 :: (ps.map str ++ r)) 4 24 (ps.map str) := by
  have := SubL.all (ps.map str) r
  rw [List.length_map, h] at this
  exact .succ (.succ (.succ (.succ this)))
theorem sub_worn {x0 x1 x2 x3 : Value} {ps : List (List UInt8)} {ws : List Int} (h : ps.length = 24) (hw : ws.length = 24) : SubL (x0 :: x1 :: x2 :: x3 :: (ps.map str ++ ws.map i64)) 28 24 (ws.map i64) := by
  have := SubL.all (ws.map i64) []
  rw [List.length_map, hw, List.append_nil] at this
  have := this.behind (ps.map str)
  rw [List.length_map, h] at this
  exact .succ (.succ (.succ (.succ this)))
theorem fill_pages {z0 z1 z2 z3 : Value} {ps : List (List UInt8)} (h : ps.length = 24) : SetMany (z0 :: z1 :: z2 :: z3 :: (List.replicate 24 (str []) ++ List.replicate 24 (i64 0))) 4 (ps.map str) (z0 :: z1 :: z2 :: z3 :: (ps.map str ++ List.replicate 24 (i64 0))) :=
  .succ (.succ (.succ (.succ (SetMany.all _ _ _ (by rw [List.length_replicate, List.length_map, h])))))
theorem fill_worn {z0 z1 z2 z3 : Value} {ps : List (List UInt8)} {ws : List Int} (h : ps.length = 24) (hw : ws.length = 24) : SetMany (z0 :: z1 :: z2 :: z3 :: (ps.map str ++ List.replicate 24 (i64 0))) 28 (ws.map i64) (z0 :: z1 :: z2 :: z3 :: (ps.map str ++ ws.map i64)) := by
  have := SetMany.all (List.replicate 24 (i64 0)) (ws.map i64) [] (by rw [List.length_replicate, List.length_map, hw])
  rw [List.append_nil, List.append_nil] at this
  have := this.behind (ps.map str)
  rw [List.length_map, h] at this
  exact .succ (.succ (.succ (.succ this)))
theorem again_wf {m : Mem} {K : Nat} (h : m.wf K) : m.again.wf K := ⟨Int.le_refl _, by show (0 : Int) ≤ K; omega, Int.le_refl _, by show (0 : Int) ≤ K; omega, h.pl, h.wl, h.p, h.w⟩
theorem new_spec  (w : World) (S : BSet) (hS : (sepL []).sat S w)  :
    Tri Try.prog 10 #[] w S fun u A => ∃ b, u = ptr b 0 ∧ A = [.blk b (Value.map (none) :: i64 (Mem.new).ar :: i64 (Mem.new).ac :: Value.bool (Mem.new).off :: ((Mem.new).pages.map str ++ (Mem.new).worn.map i64)).toArray 41] := by
  refine Tri.enter (l := []) Try.func10 rfl Try.ntmps10 rfl [] (subA rfl) hS ?_
  repeat first
    | (apply WL.q; exact rfl; exact rfl; exact rfl; (first | (apply EvW.assign; exact rfl) | (apply EvW.build; exact PlC.eq; exact ZvC.eq; exact rfl; exact rfl; (focus ((repeat (first | exact Fills.nil | (apply Fills.cons; exact rfl; (first | assumption | exact rfl); exact rfl) | exact SetMany.nil | apply SetMany.cons | apply SetMany.succ)); done)))))
    | refine WC.seq ?_ | refine WC.region ?_ | refine WL.nil ?_ | refine WE.next ?_
  try refine WL.wanted rfl rfl rfl ?_
  (apply WL.box; exact rfl; exact rfl; exact rfl; intro b)
  repeat first
    | (apply WL.q; exact rfl; exact rfl; exact rfl; (first | (apply EvW.move; exact rfl) | (apply EvW.assign; exact rfl)))
    | refine WC.seq ?_ | refine WC.region ?_ | refine WL.nil ?_ | refine WE.next ?_ | refine WC.block ?_
  refine WC.loopK (σ := Nat) [1] (fun s => [(5, i64 s)]) (fun s => [.blk b (Value.map (none) :: i64 (Mem.mk 0 0 false (fillP s) (List.replicate 24 0)).ar :: i64 (Mem.mk 0 0 false (fillP s) (List.replicate 24 0)).ac :: Value.bool (Mem.mk 0 0 false (fillP s) (List.replicate 24 0)).off :: ((Mem.mk 0 0 false (fillP s) (List.replicate 24 0)).pages.map str ++ (Mem.mk 0 0 false (fillP s) (List.replicate 24 0)).worn.map i64)).toArray 41]) (fun s => s ≤ 24) (fun s => 24 - s) 0 (by (focus ((repeat (first | exact Pick.nil | (apply Pick.cons; exact rfl))); done))) (by (focus ((repeat (first | exact trivial | (refine ⟨rfl, ?_⟩))); done))) (fun _ h => h.keep (by (focus ((repeat (first | exact TakeL.nil | apply TakeL.cons | exact Take.head | apply Take.tail)); done)))) (Nat.zero_le _) (fun s hs => ?_)
  obtain ⟨i, rfl⟩ : ∃ q, q = s := ⟨s, rfl⟩
  simp only [List.cons_append, List.nil_append] at hs ⊢
  by_cases hlt : (i : Int) < 24
  · have hfs := fillP_set i (by omega)
    have hfl := fillP_length i (by omega)
    repeat first
      | (apply WL.q; exact rfl; exact rfl; exact rfl; (first | (apply EvW.move; exact rfl) | (apply EvW.assign; exact rfl) | (apply EvW.cmpT; exact rfl; exact rfl; exact rfl; omega)))
      | refine WC.seq ?_ | refine WC.region ?_ | refine WL.nil ?_ | refine WE.next ?_ | refine WC.block ?_ | refine WC.skip ?_ | refine WC.condT rfl ?_
    repeat refine WC.seq ?_
    refine WC.keep (xs := [.blk b (Value.map (none) :: i64 (Mem.mk 0 0 false (fillP i) (List.replicate 24 0)).ar :: i64 (Mem.mk 0 0 false (fillP i) (List.replicate 24 0)).ac :: Value.bool (Mem.mk 0 0 false (fillP i) (List.replicate 24 0)).off :: ((Mem.mk 0 0 false (fillP i) (List.replicate 24 0)).pages.map str ++ (Mem.mk 0 0 false (fillP i) (List.replicate 24 0)).worn.map i64)).toArray 41]) (by (focus ((repeat (first | exact TakeL.nil | apply TakeL.cons | exact Take.head | apply Take.tail)); done))) ?_
    apply WC.par _ (fun c : Ch => [.blk b (Value.map (none) :: i64 (Mem.mk 0 0 false (fillP i) (List.replicate 24 0)).ar :: i64 (Mem.mk 0 0 false (fillP i) (List.replicate 24 0)).ac :: Value.bool (Mem.mk 0 0 false (fillP i) (List.replicate 24 0)).off :: ((Mem.mk 0 0 false (fillP i) (List.replicate 24 0)).pages.map str ++ (Mem.mk 0 0 false (fillP i) (List.replicate 24 0)).worn.map i64)).toArray 41, .blk b (Value.map (none) :: i64 (Mem.mk 0 0 false (fillP (i + 1)) (List.replicate 24 0)).ar :: i64 (Mem.mk 0 0 false (fillP (i + 1)) (List.replicate 24 0)).ac :: Value.bool (Mem.mk 0 0 false (fillP (i + 1)) (List.replicate 24 0)).off :: ((Mem.mk 0 0 false (fillP (i + 1)) (List.replicate 24 0)).pages.map str ++ (Mem.mk 0 0 false (fillP (i + 1)) (List.replicate 24 0)).worn.map i64)).toArray 41]) [none, some 6] [some 6, none] [] Try.mixed
    · (focus ((repeat (first | exact Restr.nil | (apply Restr.keep; exact rfl; exact rfl) | (apply Restr.drop; exact rfl))); done))
    · intro c; exact (by (focus ((repeat (first | exact SelT.nil | apply SelT.yes | apply SelT.no)); done)))
    · exact rfl
    · decide +kernel
    · decide +kernel
    · intro c
      (apply Par.quiet _ [true, false]; exact rfl; decide +kernel; exact rfl; intro R; refine ⟨_, (by (focus ((repeat (first | exact SelT.nil | apply SelT.yes | apply SelT.no)); done))), ?_⟩;
           (first | (apply EvW.move; exact rfl)))
      (apply Par.quiet _ [true, false]; exact rfl; decide +kernel; exact rfl; intro R; refine ⟨_, (by (focus ((repeat (first | exact SelT.nil | apply SelT.yes | apply SelT.no)); done))), ?_⟩;
           (first | (apply EvW.move; exact rfl)))
      apply Par.quiet _ [true, false]
      · exact rfl
      · decide +kernel
      · exact rfl
      · intro R
        refine ⟨_, (by (focus ((repeat (first | exact SelT.nil | apply SelT.yes | apply SelT.no)); done))), ?_⟩
        apply EvW.callK ([])
        · exact rfl
        · exact fun w => Try.call28 _ w
        · (focus ((repeat (first | exact TakeL.nil | apply TakeL.cons | exact Take.head | apply Take.tail)); done))
        · exact fun w1 S1 hS1 hs1 ho1 => bare_spec 4096 w1 S1 hS1 (by decide) (by decide)
        · exact fun _ _ h => h
      (apply Par.quiet _ [true, false]; exact rfl; decide +kernel; exact rfl; intro R; refine ⟨_, (by (focus ((repeat (first | exact SelT.nil | apply SelT.yes | apply SelT.no)); done))), ?_⟩;
           (first | (apply EvW.nilPtr; exact rfl)))
      (apply Par.quiet _ [true, false]; exact rfl; decide +kernel; exact rfl; intro R; refine ⟨_, (by (focus ((repeat (first | exact SelT.nil | apply SelT.yes | apply SelT.no)); done))), ?_⟩;
           (first | (apply EvW.fieldAddr0; exact rfl; exact FldC.eq)))
      (apply Par.quiet _ [true, false]; exact rfl; decide +kernel; exact rfl; intro R; refine ⟨_, (by (focus ((repeat (first | exact SelT.nil | apply SelT.yes | apply SelT.no)); done))), ?_⟩;
           (first | (apply EvW.idxArr; exact rfl; exact rfl; exact UndC.eq; exact SzC.eq; omega; omega)))
      apply Par.eff _ [true, false] [false, true] [false, false]
      · exact rfl
      · exact rfl
      · decide +kernel
      · intro R
        refine ⟨_, _, _, (by (focus ((repeat (first | exact SelT.nil | apply SelT.yes | apply SelT.no)); done))), (by (focus ((repeat (first | exact SelT.nil | apply SelT.yes | apply SelT.no)); done))), (by (focus ((repeat (first | exact SelT.nil | apply SelT.yes | apply SelT.no)); done))), ?_⟩
        (apply EffW.store; exact rfl; exact rfl; exact rfl; exact SzC.eq; exact rfl; (rw [← hfs]); (repeat (first | exact UpdC.head (set_page (by show i < (fillP i).length; omega)) | apply UpdC.tail)))
      exact Par.nil
    · repeat (first | exact AllN.nil | (apply AllN.cons; (intro c x; (repeat (first | exact IndA.nil | (apply IndA.skip; decide +kernel) | apply IndA.same))))) 
    · repeat (first | exact AllN.nil | (apply AllN.cons; (intro c x; (repeat (first | exact IndT.nil | (apply IndT.skip; decide +kernel) | apply IndT.same))))) 
    · exact fun _ => rfl
    intro c
    refine ⟨_, (by (focus ((repeat (first | exact SelT.nil | apply SelT.yes | apply SelT.no)); done))), ?_⟩
    apply WE.writ
    · (focus ((repeat (first | exact Writ.nil | apply Writ.some | apply Writ.none)); done))
    repeat first
      | (apply WL.q; exact rfl; exact rfl; exact rfl; (first | (apply EvW.move; exact rfl) | (apply EvW.arN; exact rfl; exact rfl; exact rfl; refine i64_in ?_ ?_ <;> omega)))
      | refine WC.region ?_ | refine WL.nil ?_ | refine WE.next ?_ | refine WE.out ?_
    exact WE.again (s := i) ((i + 1)) (by omega) (by (focus ((repeat (first | exact trivial | (refine ⟨rfl, ?_⟩))); done))) (fun _ h => (by (try simp only []); exact h.keep (by (focus ((repeat (first | exact TakeL.nil | apply TakeL.cons | exact Take.head | apply Take.tail)); done))))) (by (try simp only []); omega)
  · obtain rfl : i = 24 := by omega
    rw [fillP_all]
    repeat first
      | (apply WL.q; exact rfl; exact rfl; exact rfl; (first | (apply EvW.move; exact rfl) | (apply EvW.assign; exact rfl) | (apply EvW.cmpF; exact rfl; exact rfl; exact rfl; omega)))
      | refine WC.seq ?_ | refine WC.region ?_ | refine WL.nil ?_ | refine WE.next ?_ | refine WC.exit ?_ | refine WE.pass ?_ | refine WE.hit ?_ | refine WC.condF rfl ?_ | refine WC.ret ?_
    refine WE.ret1 rfl rfl ?_
    exact ⟨b, rfl, rfl⟩
theorem again_spec (b : Nat) (o : Option Nat) (m : Mem) (K : Nat) (w : World) (S : BSet) (hS : (sepL [.blk b (Value.map (o) :: i64 (m).ar :: i64 (m).ac :: Value.bool (m).off :: ((m).pages.map str ++ (m).worn.map i64)).toArray 41]).sat S w) (hm : m.wf K) :
    Tri Try.prog 14 #[ptr b 0] w S fun u A => ∃ q, u = ptr q 0 ∧ A = [.blk b (Value.map (o) :: i64 (m).ar :: i64 (m).ac :: Value.bool (m).off :: ((m).pages.map str ++ (m).worn.map i64)).toArray 41, .blk q (Value.map (none) :: i64 (m.again).ar :: i64 (m.again).ac :: Value.bool (m.again).off :: ((m.again).pages.map str ++ (m.again).worn.map i64)).toArray 41] := by
  refine Tri.enter (l := [ptr b 0]) Try.func14 rfl Try.ntmps14 rfl [(0, ptr b 0)] (subA rfl) hS ?_
  repeat first
    | (apply WL.q; exact rfl; exact rfl; exact rfl; (first | (apply EvW.assign; exact rfl)))
    | refine WC.seq ?_ | refine WC.region ?_ | refine WL.nil ?_ | refine WE.next ?_
  repeat refine WC.seq ?_
  refine WC.keep (xs := [.blk b (Value.map (o) :: i64 (m).ar :: i64 (m).ac :: Value.bool (m).off :: ((m).pages.map str ++ (m).worn.map i64)).toArray 41]) (by (focus ((repeat (first | exact TakeL.nil | apply TakeL.cons | exact Take.head | apply Take.tail)); done))) ?_
  apply WC.par _ (fun c : Ch => [.blk b (Value.map (o) :: i64 (m).ar :: i64 (m).ac :: Value.bool (m).off :: ((m).pages.map str ++ (m).worn.map i64)).toArray 41, .blk (c 9).1 (Value.map (none) :: i64 (m.again).ar :: i64 (m.again).ac :: Value.bool (m.again).off :: ((m.again).pages.map str ++ (m.again).worn.map i64)).toArray 41]) [none, some 9] [none, none] [(9, fun x => ptr x.1 0)] Try.mixed
  · (focus ((repeat (first | exact Restr.nil | (apply Restr.keep; exact rfl; exact rfl) | (apply Restr.drop; exact rfl))); done))
  · intro c; exact (by (focus ((repeat (first | exact SelT.nil | apply SelT.yes | apply SelT.no)); done)))
  · exact rfl
  · decide +kernel
  · decide +kernel
  · intro c
    (apply Par.quiet _ [true, false]; exact rfl; decide +kernel; exact rfl; intro R; refine ⟨_, (by (focus ((repeat (first | exact SelT.nil | apply SelT.yes | apply SelT.no)); done))), ?_⟩;
         (first | (apply EvW.move; exact rfl)))
    (apply Par.quiet _ [true, false]; exact rfl; decide +kernel; exact rfl; intro R; refine ⟨_, (by (focus ((repeat (first | exact SelT.nil | apply SelT.yes | apply SelT.no)); done))), ?_⟩;
         (first | (apply EvW.nilPtr; exact rfl)))
    (apply Par.quiet _ [true, false]; exact rfl; decide +kernel; exact rfl; intro R; refine ⟨_, (by (focus ((repeat (first | exact SelT.nil | apply SelT.yes | apply SelT.no)); done))), ?_⟩;
         (first | (apply EvW.fieldAddr0; exact rfl; exact FldC.eq)))
    apply Par.quiet _ [true, false]
    · exact rfl
    · decide +kernel
    · exact rfl
    · intro R
      refine ⟨_, (by (focus ((repeat (first | exact SelT.nil | apply SelT.yes | apply SelT.no)); done))), ?_⟩
      (apply EvW.loadAgg; exact rfl; exact AggC.eq; exact SzC.eq; (focus ((repeat (first | exact Take.head | apply Take.tail)); done)); exact sub_pages hm.pl)
    (apply Par.quiet _ [true, false]; exact rfl; decide +kernel; exact rfl; intro R; refine ⟨_, (by (focus ((repeat (first | exact SelT.nil | apply SelT.yes | apply SelT.no)); done))), ?_⟩;
         (first | (apply EvW.move; exact rfl)))
    (apply Par.quiet _ [true, false]; exact rfl; decide +kernel; exact rfl; intro R; refine ⟨_, (by (focus ((repeat (first | exact SelT.nil | apply SelT.yes | apply SelT.no)); done))), ?_⟩;
         (first | (apply EvW.nilPtr; exact rfl)))
    (apply Par.quiet _ [true, false]; exact rfl; decide +kernel; exact rfl; intro R; refine ⟨_, (by (focus ((repeat (first | exact SelT.nil | apply SelT.yes | apply SelT.no)); done))), ?_⟩;
         (first | (apply EvW.fieldAddr0; exact rfl; exact FldC.eq)))
    apply Par.quiet _ [true, false]
    · exact rfl
    · decide +kernel
    · exact rfl
    · intro R
      refine ⟨_, (by (focus ((repeat (first | exact SelT.nil | apply SelT.yes | apply SelT.no)); done))), ?_⟩
      (apply EvW.loadAgg; exact rfl; exact AggC.eq; exact SzC.eq; (focus ((repeat (first | exact Take.head | apply Take.tail)); done)); exact sub_worn hm.pl hm.wl)
    apply Par.quiet _ [true, false]
    · exact rfl
    · decide +kernel
    · exact rfl
    · intro R
      refine ⟨_, (by (focus ((repeat (first | exact SelT.nil | apply SelT.yes | apply SelT.no)); done))), ?_⟩
      (apply EvW.build; exact PlC.eq; exact ZvC.eq; exact rfl; exact rfl; exact Fills.cons rfl rfl (by rw [List.length_map, hm.pl]) (fill_pages hm.pl) (Fills.cons rfl rfl (by rw [List.length_map, hm.wl]) (fill_worn hm.pl hm.wl) Fills.nil))
    apply Par.new _ [false, false] [false, true] [true, false]
    · exact rfl
    · exact rfl
    · decide +kernel
    · intro R
      refine ⟨_, _, _, (by (focus ((repeat (first | exact SelT.nil | apply SelT.yes | apply SelT.no)); done))), (by (focus ((repeat (first | exact SelT.nil | apply SelT.yes | apply SelT.no)); done))), (fun x => (by (focus ((repeat (first | exact SelT.nil | apply SelT.yes | apply SelT.no)); done)))), ?_⟩
      (apply NewW.box; exact rfl; exact rfl; exact fun _ => rfl)
    (apply Par.quiet _ [true, true]; exact rfl; decide +kernel; exact rfl; intro R; refine ⟨_, (by (focus ((repeat (first | exact SelT.nil | apply SelT.yes | apply SelT.no)); done))), ?_⟩;
         (first | (apply EvW.assign; exact rfl)))
    exact Par.nil
  · repeat (first | exact AllN.nil | (apply AllN.cons; (intro c x; (repeat (first | exact IndA.nil | (apply IndA.skip; decide +kernel) | apply IndA.same))))) 
  · repeat (first | exact AllN.nil | (apply AllN.cons; (intro c x; (repeat (first | exact IndT.nil | (apply IndT.skip; decide +kernel) | apply IndT.same))))) 
  · exact fun _ => rfl
  intro c
  refine ⟨_, (by (focus ((repeat (first | exact SelT.nil | apply SelT.yes | apply SelT.no)); done))), ?_⟩
  apply WE.writ
  · (focus ((repeat (first | exact Writ.nil | apply Writ.some | apply Writ.none)); done))
  generalize (c 9).1 = b9
  repeat first
    | refine WE.next ?_ | refine WC.ret ?_
  refine WE.ret1 rfl rfl ?_
  exact ⟨b9, rfl, rfl⟩
/-- A cut: at which act, how many bytes. -/
structure Cut where
  at' : Int
  part : Int
instance : Inhabited Cut := ⟨⟨0, 0⟩⟩
def cutC (c : Cut) : List Value := [i64 c.at', i64 c.part]
def armStep (m : List (Int × Value)) (c : Cut) : List (Int × Value) := match mget c.at' m with
  | some (.int _ q) => if c.part < q then mput c.at' (i64 c.part) m else m
  | _ => mput c.at' (i64 c.part) m
def armM (cs : List Cut) : List (Int × Value) := cs.foldl armStep []
def Ints (m : List (Int × Value)) : Prop := ∀ k v, mget k m = some v → ∃ q, v = i64 q
theorem ints_put {m : List (Int × Value)} (h : Ints m) (a q : Int) : Ints (mput a (i64 q) m) := fun k v hk => by
  rw [mget_put] at hk
  by_cases e : k = a
  · rw [if_pos e] at hk; exact ⟨q, (Option.some.inj hk).symm⟩
  · rw [if_neg e] at hk; exact h k v hk
theorem arm_none {m : List (Int × Value)} {c : Cut} (h : mget c.at' m = none) : armStep m c = mput c.at' (i64 c.part) m := by unfold armStep; rw [h]
theorem arm_less {m : List (Int × Value)} {c : Cut} {q : Int} (h : mget c.at' m = some (i64 q)) (hq : c.part < q) : armStep m c = mput c.at' (i64 c.part) m := by unfold armStep; rw [h]; exact if_pos hq
theorem arm_more {m : List (Int × Value)} {c : Cut} {q : Int} (h : mget c.at' m = some (i64 q)) (hq : ¬ c.part < q) : armStep m c = m := by unfold armStep; rw [h]; exact if_neg hq
theorem arm_take (cs : List Cut) (i : Nat) (h : i < cs.length) : armM (cs.take (i + 1)) = armStep (armM (cs.take i)) (cs.getD i default) := by
  unfold armM
  rw [List.take_add_one, getD_some (d := default) h, List.foldl_append]; rfl
theorem arm_spec (b : Nat) (o : Option Nat) (ar ac : Int) (off : Bool) (r : List Value) (T : TypeId) (v : Value) (cs : List Cut) (w : World) (S : BSet) (hS : (sepL [.blk b (Value.map (o) :: i64 (ar) :: i64 (ac) :: Value.bool (off) :: r).toArray T]).sat S w) (hv : Sees w S (.row 2 v cs.length (cs.flatMap cutC))) (hn : cs.length ≤ 17592186044416) :
    Tri Try.prog 16 #[ptr b 0, v] w S fun u A => ∃ mb, u = .tuple #[] ∧ A = [.blk b (Value.map (some mb) :: i64 (0) :: i64 (ac) :: Value.bool (off) :: r).toArray T, .imap mb (armM cs)] := by
  refine Tri.enter (l := [ptr b 0, v]) Try.func16 rfl Try.ntmps16 rfl [(0, ptr b 0), (1, v)] (subA rfl) hS ?_
  repeat first
    | (apply WL.q; exact rfl; exact rfl; exact rfl; (first | (apply EvW.move; exact rfl)))
    | refine WC.seq ?_ | refine WC.region ?_
  try refine WL.wanted rfl rfl rfl ?_
  (apply WL.makeMap; exact rfl; intro mb)
  repeat first
    | (apply WL.q; exact rfl; exact rfl; exact rfl; (first | (apply EvW.move; exact rfl) | (apply EvW.nilPtr; exact rfl) | (apply EvW.fieldAddr0; exact rfl; exact FldC.eq) | (apply EvW.lenRow; exact rfl; exact UndC.eq; assumption)))
    | refine WC.seq ?_ | refine WC.region ?_ | refine WL.nil ?_ | refine WE.next ?_ | refine WC.block ?_ | (apply WL.store; exact rfl; exact rfl; (first | assumption | exact rfl); exact SzC.eq; (first | assumption | exact rfl); (focus ((repeat (first | apply UpdC.head | apply UpdC.tail | exact SetMany.nil | apply SetMany.cons | apply SetMany.succ)); done)))
  refine WC.loopK (σ := Nat × List (Int × Value)) [0, 15, 16] (fun s => [(17, i64 s.1)]) (fun s => [.blk b (Value.map (some mb) :: i64 (0) :: i64 (ac) :: Value.bool (off) :: r).toArray T, .imap mb s.2]) (fun s => s.1 ≤ cs.length ∧ s.2 = armM (cs.take s.1) ∧ Ints s.2) (fun s => cs.length - s.1) (0, []) (by (focus ((repeat (first | exact Pick.nil | (apply Pick.cons; exact rfl))); done))) (by (focus ((repeat (first | exact trivial | (refine ⟨rfl, ?_⟩))); done))) (fun _ h => h.keep (by (focus ((repeat (first | exact TakeL.nil | apply TakeL.cons | exact Take.head | apply Take.tail)); done)))) ⟨Nat.zero_le _, rfl, fun k v h => absurd h (by simp [mget])⟩ (fun s hs => ?_)
  obtain ⟨i, mp⟩ := s
  simp only [List.cons_append, List.nil_append] at hs ⊢
  obtain ⟨hi, hmp, hI⟩ := hs
  by_cases hlt : (i : Int) < cs.length
  · have hst := arm_take cs i (by omega)
    rw [← hmp] at hst
    repeat first
      | (apply WL.q; exact rfl; exact rfl; exact rfl; (first | (apply EvW.cmpT; exact rfl; exact rfl; exact rfl; omega) | (apply EvW.idxRow; exact rfl; exact rfl; exact UndC.eq; exact SzC.eq; assumption; omega; omega)))
      | refine WC.seq ?_ | refine WC.region ?_ | refine WL.nil ?_ | refine WE.next ?_ | refine WC.block ?_ | refine WC.skip ?_ | refine WC.condT rfl ?_
    (apply WL.q; exact rfl; exact rfl; exact rfl; (apply EvW.ldElem (xs := cs) (z := (default : Cut)) (f := cutC); exact rfl; exact AggC.eq; exact SzC.eq; exact rfl; exact fun _ => rfl; assumption; omega))
    try refine WL.wanted rfl rfl rfl ?_
    (apply WL.alloc; exact rfl; exact ZvC.eq; exact rfl; intro z)
    rw [show ((i : Nat) : Int).toNat = i from rfl]
    generalize cs.getD i default = x at hst
    repeat first
      | refine WC.seq ?_ | refine WL.nil ?_ | refine WE.next ?_ | (apply WL.store; exact rfl; exact rfl; (first | assumption | exact rfl); exact SzC.eq; (first | assumption | exact rfl); (focus ((repeat (first | apply UpdC.head | apply UpdC.tail | exact SetMany.nil | apply SetMany.cons | apply SetMany.succ)); done)))
    repeat refine WC.seq ?_
    refine WC.keep (xs := [.blk b (Value.map (some mb) :: i64 (0) :: i64 (ac) :: Value.bool (off) :: r).toArray T, .imap mb mp, .blk z #[i64 x.at', i64 x.part] 43]) (by (focus ((repeat (first | exact TakeL.nil | apply TakeL.cons | exact Take.head | apply Take.tail)); done))) ?_
    apply WC.par _ (fun c : Ch => [.blk b (Value.map (some mb) :: i64 (0) :: i64 (ac) :: Value.bool (off) :: r).toArray T, .imap mb mp, .blk z #[i64 x.at', i64 x.part] 43]) [none, none, none] [none, none, none] [] Try.mixed
    · (focus ((repeat (first | exact Restr.nil | (apply Restr.keep; exact rfl; exact rfl) | (apply Restr.drop; exact rfl))); done))
    · intro c; exact (by (focus ((repeat (first | exact SelT.nil | apply SelT.yes | apply SelT.no)); done)))
    · exact rfl
    · decide +kernel
    · decide +kernel
    · intro c
      (apply Par.quiet _ [true, true, true]; exact rfl; decide +kernel; exact rfl; intro R; refine ⟨_, (by (focus ((repeat (first | exact SelT.nil | apply SelT.yes | apply SelT.no)); done))), ?_⟩;
           (first | (apply EvW.move; exact rfl)))
      (apply Par.quiet _ [true, true, true]; exact rfl; decide +kernel; exact rfl; intro R; refine ⟨_, (by (focus ((repeat (first | exact SelT.nil | apply SelT.yes | apply SelT.no)); done))), ?_⟩;
           (first | (apply EvW.nilPtr; exact rfl)))
      (apply Par.quiet _ [true, true, true]; exact rfl; decide +kernel; exact rfl; intro R; refine ⟨_, (by (focus ((repeat (first | exact SelT.nil | apply SelT.yes | apply SelT.no)); done))), ?_⟩;
           (first | (apply EvW.fieldAddr0; exact rfl; exact FldC.eq)))
      (apply Par.quiet _ [true, true, true]; exact rfl; decide +kernel; exact rfl; intro R; refine ⟨_, (by (focus ((repeat (first | exact SelT.nil | apply SelT.yes | apply SelT.no)); done))), ?_⟩;
           (first | (apply EvW.load; exact rfl; exact ScalC.eq; (focus ((repeat (first | exact Take.head | apply Take.tail)); done)); exact rfl)))
      (apply Par.quiet _ [true, true, true]; exact rfl; decide +kernel; exact rfl; intro R; refine ⟨_, (by (focus ((repeat (first | exact SelT.nil | apply SelT.yes | apply SelT.no)); done))), ?_⟩;
           (first | (apply EvW.fieldAddr0; exact rfl; exact FldC.eq)))
      (apply Par.quiet _ [true, true, true]; exact rfl; decide +kernel; exact rfl; intro R; refine ⟨_, (by (focus ((repeat (first | exact SelT.nil | apply SelT.yes | apply SelT.no)); done))), ?_⟩;
           (first | (apply EvW.load; exact rfl; exact ScalC.eq; (focus ((repeat (first | exact Take.head | apply Take.tail)); done)); exact rfl)))
      apply Par.quiet _ [true, true, true]
      · exact rfl
      · decide +kernel
      · exact rfl
      · intro R
        refine ⟨_, (by (focus ((repeat (first | exact SelT.nil | apply SelT.yes | apply SelT.no)); done))), ?_⟩
        (apply EvW.lookupOk; exact rfl; exact rfl; exact UndC.eq; exact UndC.eq; exact ZvC.eq; (focus ((repeat (first | exact Take.head | apply Take.tail)); done)))
      (apply Par.quiet _ [true, true, true]; exact rfl; decide +kernel; exact rfl; intro R; refine ⟨_, (by (focus ((repeat (first | exact SelT.nil | apply SelT.yes | apply SelT.no)); done))), ?_⟩;
           (first | (apply EvW.move; exact rfl)))
      (apply Par.quiet _ [true, true, true]; exact rfl; decide +kernel; exact rfl; intro R; refine ⟨_, (by (focus ((repeat (first | exact SelT.nil | apply SelT.yes | apply SelT.no)); done))), ?_⟩;
           (first | (apply EvW.extract; exact rfl; exact rfl)))
      (apply Par.quiet _ [true, true, true]; exact rfl; decide +kernel; exact rfl; intro R; refine ⟨_, (by (focus ((repeat (first | exact SelT.nil | apply SelT.yes | apply SelT.no)); done))), ?_⟩;
           (first | (apply EvW.extract; exact rfl; exact rfl)))
      (apply Par.quiet _ [true, true, true]; exact rfl; decide +kernel; exact rfl; intro R; refine ⟨_, (by (focus ((repeat (first | exact SelT.nil | apply SelT.yes | apply SelT.no)); done))), ?_⟩;
           (first | (apply EvW.assign; exact rfl)))
      (apply Par.quiet _ [true, true, true]; exact rfl; decide +kernel; exact rfl; intro R; refine ⟨_, (by (focus ((repeat (first | exact SelT.nil | apply SelT.yes | apply SelT.no)); done))), ?_⟩;
           (first | (apply EvW.assign; exact rfl)))
      exact Par.nil
    · repeat (first | exact AllN.nil | (apply AllN.cons; (intro c x; (repeat (first | exact IndA.nil | (apply IndA.skip; decide +kernel) | apply IndA.same))))) 
    · repeat (first | exact AllN.nil | (apply AllN.cons; (intro c x; (repeat (first | exact IndT.nil | (apply IndT.skip; decide +kernel) | apply IndT.same))))) 
    · exact fun _ => rfl
    intro c
    refine ⟨_, (by (focus ((repeat (first | exact SelT.nil | apply SelT.yes | apply SelT.no)); done))), ?_⟩
    apply WE.writ
    · (focus ((repeat (first | exact Writ.nil | apply Writ.some | apply Writ.none)); done))
    cases hg : mget x.at' mp with
    | none =>
      rw [arm_none hg] at hst
      dsimp only [Option.getD, Option.isSome]
      repeat first
        | (apply WL.q; exact rfl; exact rfl; exact rfl; (first | (apply EvW.move; exact rfl) | (apply EvW.pickT; exact rfl; exact rfl) | (apply EvW.notF; exact rfl)))
        | refine WC.seq ?_ | refine WC.region ?_ | refine WL.nil ?_ | refine WE.next ?_ | refine WC.condT rfl ?_ | refine WL.unwanted rfl rfl rfl rfl ?_
      repeat refine WC.seq ?_
      refine WC.keep (xs := [.blk b (Value.map (some mb) :: i64 (0) :: i64 (ac) :: Value.bool (off) :: r).toArray T, .imap mb mp, .blk z #[i64 x.at', i64 x.part] 43]) (by (focus ((repeat (first | exact TakeL.nil | apply TakeL.cons | exact Take.head | apply Take.tail)); done))) ?_
      apply WC.par _ (fun c : Ch => [.blk b (Value.map (some mb) :: i64 (0) :: i64 (ac) :: Value.bool (off) :: r).toArray T, .imap mb mp, .imap mb (mput x.at' (i64 x.part) mp), .blk z #[i64 x.at', i64 x.part] 43]) [none, none, some 8, none] [none, some 8, none, none] [] Try.mixed
      · (focus ((repeat (first | exact Restr.nil | (apply Restr.keep; exact rfl; exact rfl) | (apply Restr.drop; exact rfl))); done))
      · intro c; exact (by (focus ((repeat (first | exact SelT.nil | apply SelT.yes | apply SelT.no)); done)))
      · exact rfl
      · decide +kernel
      · decide +kernel
      · intro c
        (apply Par.quiet _ [true, true, false, true]; exact rfl; decide +kernel; exact rfl; intro R; refine ⟨_, (by (focus ((repeat (first | exact SelT.nil | apply SelT.yes | apply SelT.no)); done))), ?_⟩;
             (first | (apply EvW.move; exact rfl)))
        (apply Par.quiet _ [true, true, false, true]; exact rfl; decide +kernel; exact rfl; intro R; refine ⟨_, (by (focus ((repeat (first | exact SelT.nil | apply SelT.yes | apply SelT.no)); done))), ?_⟩;
             (first | (apply EvW.nilPtr; exact rfl)))
        (apply Par.quiet _ [true, true, false, true]; exact rfl; decide +kernel; exact rfl; intro R; refine ⟨_, (by (focus ((repeat (first | exact SelT.nil | apply SelT.yes | apply SelT.no)); done))), ?_⟩;
             (first | (apply EvW.fieldAddr0; exact rfl; exact FldC.eq)))
        (apply Par.quiet _ [true, true, false, true]; exact rfl; decide +kernel; exact rfl; intro R; refine ⟨_, (by (focus ((repeat (first | exact SelT.nil | apply SelT.yes | apply SelT.no)); done))), ?_⟩;
             (first | (apply EvW.load; exact rfl; exact ScalC.eq; (focus ((repeat (first | exact Take.head | apply Take.tail)); done)); exact rfl)))
        (apply Par.quiet _ [true, true, false, true]; exact rfl; decide +kernel; exact rfl; intro R; refine ⟨_, (by (focus ((repeat (first | exact SelT.nil | apply SelT.yes | apply SelT.no)); done))), ?_⟩;
             (first | (apply EvW.fieldAddr0; exact rfl; exact FldC.eq)))
        (apply Par.quiet _ [true, true, false, true]; exact rfl; decide +kernel; exact rfl; intro R; refine ⟨_, (by (focus ((repeat (first | exact SelT.nil | apply SelT.yes | apply SelT.no)); done))), ?_⟩;
             (first | (apply EvW.load; exact rfl; exact ScalC.eq; (focus ((repeat (first | exact Take.head | apply Take.tail)); done)); exact rfl)))
        (apply Par.quiet _ [true, true, false, true]; exact rfl; decide +kernel; exact rfl; intro R; refine ⟨_, (by (focus ((repeat (first | exact SelT.nil | apply SelT.yes | apply SelT.no)); done))), ?_⟩;
             (first | (apply EvW.fieldAddr0; exact rfl; exact FldC.eq)))
        (apply Par.quiet _ [true, true, false, true]; exact rfl; decide +kernel; exact rfl; intro R; refine ⟨_, (by (focus ((repeat (first | exact SelT.nil | apply SelT.yes | apply SelT.no)); done))), ?_⟩;
             (first | (apply EvW.load; exact rfl; exact ScalC.eq; (focus ((repeat (first | exact Take.head | apply Take.tail)); done)); exact rfl)))
        apply Par.eff _ [false, true, false, false] [false, false, true, false] [true, false, false, true]
        · exact rfl
        · exact rfl
        · decide +kernel
        · intro R
          refine ⟨_, _, _, (by (focus ((repeat (first | exact SelT.nil | apply SelT.yes | apply SelT.no)); done))), (by (focus ((repeat (first | exact SelT.nil | apply SelT.yes | apply SelT.no)); done))), (by (focus ((repeat (first | exact SelT.nil | apply SelT.yes | apply SelT.no)); done))), ?_⟩
          (apply EffW.mapUpdate; exact rfl; exact rfl; exact rfl; exact UndC.eq; exact UndC.eq; (focus ((repeat (first | apply UpdM.head | apply UpdM.tail)); done)))
        exact Par.nil
      · repeat (first | exact AllN.nil | (apply AllN.cons; (intro c x; (repeat (first | exact IndA.nil | (apply IndA.skip; decide +kernel) | apply IndA.same))))) 
      · repeat (first | exact AllN.nil | (apply AllN.cons; (intro c x; (repeat (first | exact IndT.nil | (apply IndT.skip; decide +kernel) | apply IndT.same))))) 
      · exact fun _ => rfl
      intro c
      refine ⟨_, (by (focus ((repeat (first | exact SelT.nil | apply SelT.yes | apply SelT.no)); done))), ?_⟩
      apply WE.writ
      · (focus ((repeat (first | exact Writ.nil | apply Writ.some | apply Writ.none)); done))
      repeat first
        | (apply WL.q; exact rfl; exact rfl; exact rfl; (first | (apply EvW.move; exact rfl) | (apply EvW.arN; exact rfl; exact rfl; exact rfl; refine i64_in ?_ ?_ <;> omega)))
        | refine WC.region ?_ | refine WL.nil ?_ | refine WE.next ?_ | refine WE.out ?_
      exact WE.again (s := (i, mp)) ((i + 1, mput x.at' (i64 x.part) mp)) ⟨by simp only []; omega, hst.symm, ints_put hI _ _⟩ (by (focus ((repeat (first | exact trivial | (refine ⟨rfl, ?_⟩))); done))) (fun _ h => (by (try simp only []); exact h.keep (by (focus ((repeat (first | exact TakeL.nil | apply TakeL.cons | exact Take.head | apply Take.tail)); done))))) (by (try simp only []); omega)
    | some g =>
      obtain ⟨q, rfl⟩ := hI _ _ hg
      dsimp only [Option.getD, Option.isSome]
      by_cases hq : x.part < q
      · rw [arm_less hg hq] at hst
        repeat first
          | (apply WL.q; exact rfl; exact rfl; exact rfl; (first | (apply EvW.move; exact rfl) | (apply EvW.fieldAddr0; exact rfl; exact FldC.eq) | (apply EvW.load; exact rfl; exact ScalC.eq; (focus ((repeat (first | exact Take.head | apply Take.tail)); done)); exact rfl) | (apply EvW.cmpT; exact rfl; exact rfl; exact rfl; omega) | (apply EvW.pickF; exact rfl; exact rfl) | (apply EvW.notT; exact rfl)))
          | refine WC.seq ?_ | refine WC.region ?_ | refine WL.nil ?_ | refine WE.next ?_ | refine WC.condT rfl ?_ | refine WL.wanted rfl rfl rfl ?_
        repeat refine WC.seq ?_
        refine WC.keep (xs := [.blk b (Value.map (some mb) :: i64 (0) :: i64 (ac) :: Value.bool (off) :: r).toArray T, .imap mb mp, .blk z #[i64 x.at', i64 x.part] 43]) (by (focus ((repeat (first | exact TakeL.nil | apply TakeL.cons | exact Take.head | apply Take.tail)); done))) ?_
        apply WC.par _ (fun c : Ch => [.blk b (Value.map (some mb) :: i64 (0) :: i64 (ac) :: Value.bool (off) :: r).toArray T, .imap mb mp, .imap mb (mput x.at' (i64 x.part) mp), .blk z #[i64 x.at', i64 x.part] 43]) [none, none, some 8, none] [none, some 8, none, none] [] Try.mixed
        · (focus ((repeat (first | exact Restr.nil | (apply Restr.keep; exact rfl; exact rfl) | (apply Restr.drop; exact rfl))); done))
        · intro c; exact (by (focus ((repeat (first | exact SelT.nil | apply SelT.yes | apply SelT.no)); done)))
        · exact rfl
        · decide +kernel
        · decide +kernel
        · intro c
          (apply Par.quiet _ [true, true, false, true]; exact rfl; decide +kernel; exact rfl; intro R; refine ⟨_, (by (focus ((repeat (first | exact SelT.nil | apply SelT.yes | apply SelT.no)); done))), ?_⟩;
               (first | (apply EvW.move; exact rfl)))
          (apply Par.quiet _ [true, true, false, true]; exact rfl; decide +kernel; exact rfl; intro R; refine ⟨_, (by (focus ((repeat (first | exact SelT.nil | apply SelT.yes | apply SelT.no)); done))), ?_⟩;
               (first | (apply EvW.nilPtr; exact rfl)))
          (apply Par.quiet _ [true, true, false, true]; exact rfl; decide +kernel; exact rfl; intro R; refine ⟨_, (by (focus ((repeat (first | exact SelT.nil | apply SelT.yes | apply SelT.no)); done))), ?_⟩;
               (first | (apply EvW.fieldAddr0; exact rfl; exact FldC.eq)))
          (apply Par.quiet _ [true, true, false, true]; exact rfl; decide +kernel; exact rfl; intro R; refine ⟨_, (by (focus ((repeat (first | exact SelT.nil | apply SelT.yes | apply SelT.no)); done))), ?_⟩;
               (first | (apply EvW.load; exact rfl; exact ScalC.eq; (focus ((repeat (first | exact Take.head | apply Take.tail)); done)); exact rfl)))
          (apply Par.quiet _ [true, true, false, true]; exact rfl; decide +kernel; exact rfl; intro R; refine ⟨_, (by (focus ((repeat (first | exact SelT.nil | apply SelT.yes | apply SelT.no)); done))), ?_⟩;
               (first | (apply EvW.fieldAddr0; exact rfl; exact FldC.eq)))
          (apply Par.quiet _ [true, true, false, true]; exact rfl; decide +kernel; exact rfl; intro R; refine ⟨_, (by (focus ((repeat (first | exact SelT.nil | apply SelT.yes | apply SelT.no)); done))), ?_⟩;
               (first | (apply EvW.load; exact rfl; exact ScalC.eq; (focus ((repeat (first | exact Take.head | apply Take.tail)); done)); exact rfl)))
          (apply Par.quiet _ [true, true, false, true]; exact rfl; decide +kernel; exact rfl; intro R; refine ⟨_, (by (focus ((repeat (first | exact SelT.nil | apply SelT.yes | apply SelT.no)); done))), ?_⟩;
               (first | (apply EvW.fieldAddr0; exact rfl; exact FldC.eq)))
          (apply Par.quiet _ [true, true, false, true]; exact rfl; decide +kernel; exact rfl; intro R; refine ⟨_, (by (focus ((repeat (first | exact SelT.nil | apply SelT.yes | apply SelT.no)); done))), ?_⟩;
               (first | (apply EvW.load; exact rfl; exact ScalC.eq; (focus ((repeat (first | exact Take.head | apply Take.tail)); done)); exact rfl)))
          apply Par.eff _ [false, true, false, false] [false, false, true, false] [true, false, false, true]
          · exact rfl
          · exact rfl
          · decide +kernel
          · intro R
            refine ⟨_, _, _, (by (focus ((repeat (first | exact SelT.nil | apply SelT.yes | apply SelT.no)); done))), (by (focus ((repeat (first | exact SelT.nil | apply SelT.yes | apply SelT.no)); done))), (by (focus ((repeat (first | exact SelT.nil | apply SelT.yes | apply SelT.no)); done))), ?_⟩
            (apply EffW.mapUpdate; exact rfl; exact rfl; exact rfl; exact UndC.eq; exact UndC.eq; (focus ((repeat (first | apply UpdM.head | apply UpdM.tail)); done)))
          exact Par.nil
        · repeat (first | exact AllN.nil | (apply AllN.cons; (intro c x; (repeat (first | exact IndA.nil | (apply IndA.skip; decide +kernel) | apply IndA.same))))) 
        · repeat (first | exact AllN.nil | (apply AllN.cons; (intro c x; (repeat (first | exact IndT.nil | (apply IndT.skip; decide +kernel) | apply IndT.same))))) 
        · exact fun _ => rfl
        intro c
        refine ⟨_, (by (focus ((repeat (first | exact SelT.nil | apply SelT.yes | apply SelT.no)); done))), ?_⟩
        apply WE.writ
        · (focus ((repeat (first | exact Writ.nil | apply Writ.some | apply Writ.none)); done))
        repeat first
          | (apply WL.q; exact rfl; exact rfl; exact rfl; (first | (apply EvW.move; exact rfl) | (apply EvW.arN; exact rfl; exact rfl; exact rfl; refine i64_in ?_ ?_ <;> omega)))
          | refine WC.region ?_ | refine WL.nil ?_ | refine WE.next ?_ | refine WE.out ?_
        exact WE.again (s := (i, mp)) ((i + 1, mput x.at' (i64 x.part) mp)) ⟨by simp only []; omega, hst.symm, ints_put hI _ _⟩ (by (focus ((repeat (first | exact trivial | (refine ⟨rfl, ?_⟩))); done))) (fun _ h => (by (try simp only []); exact h.keep (by (focus ((repeat (first | exact TakeL.nil | apply TakeL.cons | exact Take.head | apply Take.tail)); done))))) (by (try simp only []); omega)
      · rw [arm_more hg hq] at hst
        repeat first
          | (apply WL.q; exact rfl; exact rfl; exact rfl; (first | (apply EvW.move; exact rfl) | (apply EvW.fieldAddr0; exact rfl; exact FldC.eq) | (apply EvW.load; exact rfl; exact ScalC.eq; (focus ((repeat (first | exact Take.head | apply Take.tail)); done)); exact rfl) | (apply EvW.cmpF; exact rfl; exact rfl; exact rfl; omega) | (apply EvW.arN; exact rfl; exact rfl; exact rfl; refine i64_in ?_ ?_ <;> omega) | (apply EvW.pickF; exact rfl; exact rfl) | (apply EvW.notT; exact rfl)))
          | refine WC.seq ?_ | refine WC.region ?_ | refine WL.nil ?_ | refine WE.next ?_ | refine WC.skip ?_ | refine WE.out ?_ | refine WC.condF rfl ?_ | refine WL.wanted rfl rfl rfl ?_
        exact WE.again (s := (i, mp)) ((i + 1, mp)) ⟨by simp only []; omega, hst.symm, hI⟩ (by (focus ((repeat (first | exact trivial | (refine ⟨rfl, ?_⟩))); done))) (fun _ h => (by (try simp only []); exact h.keep (by (focus ((repeat (first | exact TakeL.nil | apply TakeL.cons | exact Take.head | apply Take.tail)); done))))) (by (try simp only []); omega)
  · obtain rfl : i = cs.length := by omega
    rw [List.take_length] at hmp
    subst hmp
    repeat first
      | (apply WL.q; exact rfl; exact rfl; exact rfl; (first | (apply EvW.cmpF; exact rfl; exact rfl; exact rfl; omega)))
      | refine WC.seq ?_ | refine WC.region ?_ | refine WL.nil ?_ | refine WE.next ?_ | refine WC.exit ?_ | refine WE.pass ?_ | refine WE.hit ?_ | refine WC.condF rfl ?_
    refine WE.keep (xs := [.blk b (Value.map (some mb) :: i64 (0) :: i64 (ac) :: Value.bool (off) :: r).toArray T, .imap mb (armM cs)]) (by (focus ((repeat (first | exact TakeL.nil | apply TakeL.cons | exact Take.head | apply Take.tail)); done))) ?_
    first | refine WE.end0 rfl ?_ | refine WE.ret0 rfl ?_
    exact ⟨mb, rfl, rfl⟩
end Go.Proofs.Ytakffjjnogpolaa
