/- The law of each: every section is told by its own controller. -/
import Derived.Test.YtdnpofigagdabaaTeleT
namespace Go.Proofs.Ytdnpofigagdabaa
open Go.RowKit Go.BK

theorem mem_idx {p : Nat → Bool} {n : Nat} {x : Int} : x ∈ idx p n ↔ ∃ i : Nat, i < n ∧ p i = true ∧ x = i := by
  unfold idx
  simp only [List.mem_map, List.mem_filter, List.mem_range]
  constructor
  · rintro ⟨i, ⟨h1, h2⟩, rfl⟩; exact ⟨i, h1, h2, rfl⟩
  · rintro ⟨i, h1, h2, rfl⟩; exact ⟨i, ⟨h1, h2⟩, rfl⟩
theorem nodup_idx (p : Nat → Bool) (n : Nat) : (idx p n).Nodup := by
  unfold idx
  unfold List.Nodup
  rw [List.pairwise_map]
  exact (List.Pairwise.filter _ List.nodup_range).imp fun {a b} h e => h (by omega)
theorem one4g (b : Bool) (x : Int) : (if (b && decide (x = 0)) = true then 1 else 0) + (if (b && decide (x = 1)) = true then 1 else 0) + (if (b && decide (x = 2)) = true then 1 else 0) + (if (b && decide (x = 3)) = true then 1 else 0) = (if (b && (decide (0 ≤ x) && decide (x < 4))) = true then 1 else 0) := by
  by_cases h : 0 ≤ x ∧ x < 4
  · rw [one4 b x h, decide_eq_true h.1, decide_eq_true h.2]; simp
  · have h0 : ¬ x = 0 := by omega
    have h1 : ¬ x = 1 := by omega
    have h2 : ¬ x = 2 := by omega
    have h3 : ¬ x = 3 := by omega
    rw [decide_eq_false h0, decide_eq_false h1, decide_eq_false h2, decide_eq_false h3]
    by_cases h4 : 0 ≤ x
    · rw [decide_eq_false (show ¬ x < 4 by omega)]; simp
    · rw [decide_eq_false h4]; simp
def Cfg.in4 (g : Cfg) (i : Nat) : Bool := decide (0 ≤ (g.secs.getD i default).oc) && decide ((g.secs.getD i default).oc < 4)
def Cfg.wP (g : Cfg) (i : Nat) : Bool := g.qP i && g.in4 i
theorem Cfg.mine4g (g : Cfg) (s : Int) : (if g.mine 0 s = true then 1 else 0) + (if g.mine 1 s = true then 1 else 0) + (if g.mine 2 s = true then 1 else 0) + (if g.mine 3 s = true then 1 else 0) = (if ((decide (0 ≤ s) && decide (s < g.secs.length)) && g.in4 s.toNat) = true then 1 else 0) := one4g _ _
theorem Cfg.sumP' (g : Cfg) : upTo g.fP 4 = cnt g.wP g.secs.length := by
  have := four_eq (p := fun k i => g.pP k i) (q := g.wP) g.secs.length fun i hi => by
    have := one4g (g.qP i) (g.secs.getD i default).oc
    unfold Cfg.pP
    simp only [mine_at g _ i hi]
    simp only [Bool.and_comm (g.qP i) (decide (_ = _))] at this
    exact this
  rw [upTo4]
  exact this
theorem Cfg.leC (g : Cfg) : upTo g.fC 4 ≤ g.crs.length := by
  have := four_eq (p := fun k i => g.pC k i) (q := fun i => (decide (0 ≤ g.crs.getD i 0) && decide (g.crs.getD i 0 < g.secs.length)) && g.in4 (g.crs.getD i 0).toNat) g.crs.length fun i _ => g.mine4g _
  rw [upTo4]
  have h := cnt_le (fun i => (decide (0 ≤ g.crs.getD i 0) && decide (g.crs.getD i 0 < g.secs.length)) && g.in4 (g.crs.getD i 0).toNat) g.crs.length
  rw [← this] at h
  exact h
theorem Cfg.leG (g : Cfg) : upTo g.fG 4 ≤ g.sigs.length := by
  have := four_eq (p := fun k i => g.pG k i) (q := fun i => (decide (0 ≤ (g.sigs.getD i default).s) && decide ((g.sigs.getD i default).s < g.secs.length)) && g.in4 ((g.sigs.getD i default).s).toNat) g.sigs.length fun i _ => g.mine4g _
  rw [upTo4]
  have h := cnt_le (fun i => (decide (0 ≤ (g.sigs.getD i default).s) && decide ((g.sigs.getD i default).s < g.secs.length)) && g.in4 ((g.sigs.getD i default).s).toNat) g.sigs.length
  rw [← this] at h
  exact h
/-- How often section i was told by the controllers ahead of k. -/
def Cfg.told (g : Cfg) (k i : Nat) : Int := if 0 ≤ (g.secs.getD i default).oc ∧ (g.secs.getD i default).oc < k then 1 else 0
theorem Cfg.told_step (g : Cfg) (k i : Nat) (hi : i < g.secs.length) : g.told (k + 1) i = g.told k i + (if (i : Int) ∈ g.lS k then 1 else 0) := by
  have hm : (i : Int) ∈ g.lS k ↔ (g.secs.getD i default).oc = k := by
    unfold Cfg.lS
    rw [mem_idx]
    constructor
    · rintro ⟨j, h1, h2, h3⟩
      have e : i = j := by omega
      subst e
      unfold Cfg.pS at h2
      rw [mine_at g _ i hi] at h2
      exact of_decide_eq_true h2
    · intro h
      refine ⟨i, hi, ?_, rfl⟩
      unfold Cfg.pS
      rw [mine_at g _ i hi]
      exact decide_eq_true h
  unfold Cfg.told
  by_cases h : (g.secs.getD i default).oc = k
  · rw [if_pos (hm.2 h), if_pos (by omega), if_neg (by omega)]; rfl
  · rw [if_neg (fun x => h (hm.1 x))]
    by_cases h2 : 0 ≤ (g.secs.getD i default).oc ∧ (g.secs.getD i default).oc < k
    · rw [if_pos h2, if_pos (by omega)]; rfl
    · rw [if_neg h2, if_neg (by omega)]; rfl
/-- What was seen behind j numbers of a list. -/
def SeenJ (n : Nat) (B : Nat → Int) (L : List Int) (j : Nat) (sn : List Int) : Prop := sn.length = n ∧ ∀ i, i < n → sn.getD i 0 = B i + (if (i : Int) ∈ L.take j then 1 else 0)
theorem SeenJ.step {n : Nat} {B : Nat → Int} {L sn : List Int} {j : Nat} (h : SeenJ n B L j sn) (hn : L.Nodup) (hj : j < L.length) (h0 : 0 ≤ L.getD j 0) (h1 : L.getD j 0 < n) : SeenJ n B L (j + 1) (sn.set (L.getD j 0).toNat (sn.getD (L.getD j 0).toNat 0 + 1)) := by
  obtain ⟨h2, h3⟩ := h
  have ej : L.getD j 0 = L[j] := by simp [List.getD_eq_getElem?_getD, hj]
  refine ⟨by rw [List.length_set, h2], fun i hi => ?_⟩
  have htk : L.take (j + 1) = L.take j ++ [L[j]] := (List.take_append_getElem hj).symm
  have hmem : (i : Int) ∈ L.take (j + 1) ↔ (i : Int) ∈ L.take j ∨ (i : Int) = L[j] := by rw [htk, List.mem_append, List.mem_singleton]
  by_cases e : i = (L.getD j 0).toNat
  · have hi' : (i : Int) = L[j] := by omega
    have hnot : ¬ (i : Int) ∈ L.take j := by
      rw [hi']
      intro hm
      obtain ⟨m, hm1, hm2⟩ := List.getElem_of_mem hm
      rw [List.getElem_take] at hm2
      rw [List.length_take] at hm1
      exact List.pairwise_iff_getElem.1 hn m j (by omega) hj (by omega) hm2
    rw [List.getD_eq_getElem?_getD, e, List.getElem?_set_self (by omega), Option.getD_some, ← e, h3 i hi, if_neg hnot, if_pos (hmem.2 (.inr hi'))]
    omega
  · have hi' : ¬ (i : Int) = L[j] := by omega
    rw [List.getD_eq_getElem?_getD, List.getElem?_set_ne (by omega), ← List.getD_eq_getElem?_getD, h3 i hi]
    by_cases c : (i : Int) ∈ L.take j
    · rw [if_pos c, if_pos (hmem.2 (.inl c))]
    · rw [if_neg c, if_neg (fun x => (hmem.1 x).elim c hi')]

set_option maxHeartbeats 4000000 in
theorem teleEach_law (g : Cfg) (w : World) (S : BSet) (hS : (sepL []).sat S w) (h : g.Seen w S) :
    Tri Try.prog 4 #[.agg (cfgC g).toArray] w S fun u A => u = .bool true := by
  refine Tri.enter (l := [.agg (cfgC g).toArray]) Try.func4 rfl Try.ntmps4 rfl [(0, .agg (cfgC g).toArray)] (subA rfl) hS ?_
  have hsec := h.secs
  have hsig := h.sigs
  have hcrs := h.crs
  have hnS := h.nS
  have hnG := h.nG
  have hnC := h.nC
  repeat first
    | refine WC.seq ?_ | refine WC.region ?_
  try refine WL.wanted rfl rfl rfl ?_
  (apply WL.box; exact rfl; exact rfl; exact rfl; intro q1)
  repeat first
    | (apply WL.q; exact rfl; exact rfl; exact rfl; (first | (apply EvW.assign; exact rfl)))
    | refine WC.seq ?_ | refine WC.region ?_ | refine WL.nil ?_ | refine WE.next ?_
  try refine WL.wanted rfl rfl rfl ?_
  apply WL.callA ([])
  · exact rfl
  · exact rfl
  · exact fun w => Try.call8 _ w
  · (focus ((repeat (first | exact TakeL.nil | apply TakeL.cons | exact Take.head | apply Take.tail)); done))
  · exact fun w1 S1 hS1 hs1 ho1 => lives10_spec w1 S1 hS1
  rintro _ _ ⟨rfl, rfl⟩
  first | refine WL.app4 ?_ | refine WL.app3 ?_ | refine WL.app2 ?_ | refine WL.app1 ?_ | refine WL.app0 ?_ | skip
  repeat first
    | (apply WL.q; exact rfl; exact rfl; exact rfl; (first | (apply EvW.fieldAddr0; exact rfl; exact FldC.eq) | (apply EvW.load; exact rfl; exact ScalC.eq; (focus ((repeat (first | exact Take.head | apply Take.tail)); done)); exact rfl) | (apply EvW.notT; exact rfl) | (apply EvW.lenRow; exact rfl; exact UndC.eq; assumption)))
    | refine WC.seq ?_ | refine WC.region ?_ | refine WL.nil ?_ | refine WE.next ?_ | refine WC.skip ?_ | refine WC.condF rfl ?_
  try refine WL.wanted rfl rfl rfl ?_
  (apply WL.make1; exact rfl; exact rfl; exact rfl; exact UndC.eq; exact SzC.eq; exact ByC.eq; exact ZvC.eq; exact rfl; omega; omega)
  · (simp only [Int.toNat_natCast]; omega)
  intro v
  simp only [Int.toNat_natCast]
  refine WL.ownEq (cs' := (List.replicate g.secs.length (0 : Int)).map i64) (len' := (List.replicate g.secs.length (0 : Int)).length) .head (by simp) (by simp) ?_
  repeat first
    | (apply WL.q; exact rfl; exact rfl; exact rfl; (first | (apply EvW.assign; exact rfl)))
    | refine WC.seq ?_ | refine WC.region ?_ | refine WL.nil ?_ | refine WE.next ?_ | refine WC.block ?_
  refine WC.loopK (σ := Nat × List Int) [1, 3] (fun s => [(4, i64 (upTo g.fG s.1)), (5, i64 (upTo g.fC s.1)), (6, i64 (upTo g.fP s.1)), (7, i64 s.1)]) (fun s => [.blk q1 (cfgC g).toArray 30, .own 3 1 (v) (s.2).length ((s.2).map i64)]) (fun s => s.1 ≤ 4 ∧ s.2.length = g.secs.length ∧ ∀ i, i < g.secs.length → s.2.getD i 0 = g.told s.1 i) (fun s => 4 - s.1) (0, List.replicate g.secs.length (0 : Int)) (by (focus ((repeat (first | exact Pick.nil | (apply Pick.cons; exact rfl))); done))) (by (focus ((repeat (first | exact trivial | (refine ⟨rfl, ?_⟩))); done))) (fun _ h => h.keep (by (focus ((repeat (first | exact TakeL.nil | apply TakeL.cons | exact Take.head | apply Take.tail)); done)))) ⟨by simp, by simp, fun i hi => by simp only [Cfg.told]; rw [if_neg (by omega)]; simp [List.getD_eq_getElem?_getD, hi]⟩ (fun s hs => ?_)
  obtain ⟨k, sn⟩ := s
  simp only [List.cons_append, List.nil_append] at hs ⊢
  by_cases hk : (k : Int) < 4
  · have u2 := upTo_le (f := g.fP) (fun j => idx_le _ _) k
    have u3 := upTo_le (f := g.fC) (fun j => idx_le _ _) k
    have u4 := upTo_le (f := g.fG) (fun j => idx_le _ _) k
    have v1 : k * g.secs.length ≤ 4 * g.secs.length := Nat.mul_le_mul_right _ (by omega)
    have v2 : k * g.crs.length ≤ 4 * g.crs.length := Nat.mul_le_mul_right _ (by omega)
    have v3 : k * g.sigs.length ≤ 4 * g.sigs.length := Nat.mul_le_mul_right _ (by omega)
    have x1 : (g.lS (k : Int)).length ≤ g.secs.length := idx_le _ _
    have x2 : (g.lP (k : Int)).length ≤ g.secs.length := idx_le _ _
    have x3 : (g.lC (k : Int)).length ≤ g.crs.length := idx_le _ _
    have x4 : (g.lG (k : Int)).length ≤ g.sigs.length := idx_le _ _
    repeat first
      | (apply WL.q; exact rfl; exact rfl; exact rfl; (first | (apply EvW.move; exact rfl) | (apply EvW.cmpT; exact rfl; exact rfl; exact rfl; omega) | (apply EvW.loadAgg; exact rfl; exact AggC.eq; exact SzC.eq; (focus ((repeat (first | exact Take.head | apply Take.tail)); done)); (focus ((repeat (first | exact SubL.nil | apply SubL.cons | apply SubL.succ)); done)))))
      | refine WC.seq ?_ | refine WC.region ?_ | refine WL.nil ?_ | refine WE.next ?_ | refine WC.block ?_ | refine WC.skip ?_ | refine WC.condT rfl ?_
    try refine WL.wanted rfl rfl rfl ?_
    apply WL.callA ([])
    · exact rfl
    · exact rfl
    · exact fun w => Try.call9 _ w
    · (focus ((repeat (first | exact TakeL.nil | apply TakeL.cons | exact Take.head | apply Take.tail)); done))
    · exact fun w1 S1 hS1 hs1 ho1 => shape_spec g k w1 S1 hS1 (h.down hs1)
    rintro _ _ ⟨a, b, d, e, rfl, rfl⟩
    first | refine WL.app4 ?_ | refine WL.app3 ?_ | refine WL.app2 ?_ | refine WL.app1 ?_ | refine WL.app0 ?_ | skip
    skip
    try refine WL.wanted rfl rfl rfl ?_
    (apply WL.alloc; exact rfl; exact ZvC.eq; exact rfl; intro x)
    (first | refine WL.slOwn (v := a) (by (focus ((repeat (first | exact Take.head | apply Take.tail)); done))) ?_ | refine WC.slOwn (v := a) (by (focus ((repeat (first | exact Take.head | apply Take.tail)); done))) ?_)
    intro hc_a ho_a
    (first | refine WL.slOwn (v := b) (by (focus ((repeat (first | exact Take.head | apply Take.tail)); done))) ?_ | refine WC.slOwn (v := b) (by (focus ((repeat (first | exact Take.head | apply Take.tail)); done))) ?_)
    intro hc_b ho_b
    (first | refine WL.slOwn (v := d) (by (focus ((repeat (first | exact Take.head | apply Take.tail)); done))) ?_ | refine WC.slOwn (v := d) (by (focus ((repeat (first | exact Take.head | apply Take.tail)); done))) ?_)
    intro hc_d ho_d
    (first | refine WL.slOwn (v := e) (by (focus ((repeat (first | exact Take.head | apply Take.tail)); done))) ?_ | refine WC.slOwn (v := e) (by (focus ((repeat (first | exact Take.head | apply Take.tail)); done))) ?_)
    intro hc_e ho_e
    have hall : ([a, b, d, e] : List Value).all (·.oneCell') = true := by
      simp at ho_a ho_b ho_d ho_e
      simp [ho_a, ho_b, ho_d, ho_e]
    clear hc_a hc_b hc_d hc_e ho_a ho_b ho_d ho_e
    repeat first
      | (apply WL.q; exact rfl; exact rfl; exact rfl; (first | (apply EvW.move; exact rfl) | (apply EvW.fieldAddr0; exact rfl; exact FldC.eq) | (apply EvW.load; exact rfl; exact ScalC.eq; (focus ((repeat (first | exact Take.head | apply Take.tail)); done)); exact rfl) | (apply EvW.lenOwn; exact rfl; exact UndC.eq; (focus ((repeat (first | exact Take.head | apply Take.tail)); done)))))
      | refine WC.seq ?_ | refine WC.region ?_ | refine WL.nil ?_ | refine WE.next ?_ | refine WC.block ?_ | (apply WL.store; exact rfl; exact rfl; (first | assumption | exact rfl); exact SzC.eq; (first | assumption | exact rfl); (focus ((repeat (first | apply UpdC.head | apply UpdC.tail | exact SetMany.nil | apply SetMany.cons | apply SetMany.succ)); done)))
    refine WC.loopK (σ := Nat × List Int) [1, 3, 4, 5, 6, 7, 8, 29, 30] (fun s => [(31, i64 s.1)]) (fun s => [.blk q1 (cfgC g).toArray 30, .own 3 1 (v) (s.2).length ((s.2).map i64), .own 3 1 (a) (g.lS k).length ((g.lS k).map i64), .own 3 1 (b) (g.lP k).length ((g.lP k).map i64), .own 3 1 (d) (g.lC k).length ((g.lC k).map i64), .own 3 1 (e) (g.lG k).length ((g.lG k).map i64), .blk x #[a, b, d, e] 33]) (fun s => s.1 ≤ (g.lS k).length ∧ SeenJ g.secs.length (g.told k) (g.lS k) s.1 s.2) (fun s => (g.lS k).length - s.1) (0, sn) (by (focus ((repeat (first | exact Pick.nil | (apply Pick.cons; exact rfl))); done))) (by (focus ((repeat (first | exact trivial | (refine ⟨rfl, ?_⟩))); done))) (fun _ h => h.keep (by (focus ((repeat (first | exact TakeL.nil | apply TakeL.cons | exact Take.head | apply Take.tail)); done)))) ⟨Nat.zero_le _, hs.2.1, fun i hi => by simpa using hs.2.2 i hi⟩ (fun s hs => ?_)
    obtain ⟨j, m⟩ := s
    simp only [List.cons_append, List.nil_append] at hs ⊢
    by_cases hj : (j : Int) < (g.lS k).length
    · have hj' : j < (g.lS k).length := by omega
      obtain ⟨i, hi1, hi2, hi3⟩ := mem_idx.1 (show (g.lS k).getD j 0 ∈ g.lS k by rw [List.getD_eq_getElem?_getD, List.getElem?_eq_getElem hj', Option.getD_some]; exact List.getElem_mem hj')
      have hoc : (g.secs.getD i default).oc = (k : Int) := by
        unfold Cfg.pS at hi2
        rw [mine_at g _ i hi1] at hi2
        exact of_decide_eq_true hi2
      have hstep := hs.2.step (nodup_idx _ _) hj' (by omega) (by omega)
      have hml := hs.2.1
      have hval : m.getD ((g.lS k).getD j 0).toNat 0 = 0 ∨ m.getD ((g.lS k).getD j 0).toNat 0 = 1 ∨ m.getD ((g.lS k).getD j 0).toNat 0 = 2 := by
        rw [hi3, Int.toNat_natCast, hs.2.2 i hi1]
        unfold Cfg.told
        by_cases c1 : 0 ≤ (g.secs.getD i default).oc ∧ (g.secs.getD i default).oc < k
        · rw [if_pos c1]; by_cases c2 : (i : Int) ∈ (g.lS k).take j
          · rw [if_pos c2]; simp
          · rw [if_neg c2]; simp
        · rw [if_neg c1]; by_cases c2 : (i : Int) ∈ (g.lS k).take j
          · rw [if_pos c2]; simp
          · rw [if_neg c2]; simp
      have hjn : (((j : Nat) : Int)).toNat = j := Int.toNat_natCast j
      have hoc' : (g.secs.getD ((g.lS k).getD ((j : Nat) : Int).toNat 0).toNat default).oc = (k : Int) := by
        rw [hjn, hi3, Int.toNat_natCast]; exact hoc
      have hb0 : 0 ≤ (g.lS k).getD ((j : Nat) : Int).toNat 0 := by rw [hjn]; omega
      have hb1 : (g.lS k).getD ((j : Nat) : Int).toNat 0 < g.secs.length := by rw [hjn]; omega
      have hval' : m.getD ((g.lS k).getD ((j : Nat) : Int).toNat 0).toNat 0 = 0 ∨ m.getD ((g.lS k).getD ((j : Nat) : Int).toNat 0).toNat 0 = 1 ∨ m.getD ((g.lS k).getD ((j : Nat) : Int).toNat 0).toNat 0 = 2 := by rw [hjn]; exact hval
      have hset : (m.set ((g.lS k).getD j 0).toNat (m.getD ((g.lS k).getD j 0).toNat 0 + 1)).length = m.length := List.length_set
      repeat first
        | (apply WL.q; exact rfl; exact rfl; exact rfl; (first | (apply EvW.move; exact rfl) | (apply EvW.assign; exact rfl) | (apply EvW.fieldAddr0; exact rfl; exact FldC.eq) | (apply EvW.load; exact rfl; exact ScalC.eq; (focus ((repeat (first | exact Take.head | apply Take.tail)); done)); exact rfl) | (apply EvW.ldFld; exact rfl; exact ScalC.eq; assumption; exact fun _ => rfl; omega; exact rfl; exact inferInstance) | (apply EvW.cmpT; exact rfl; exact rfl; exact rfl; omega) | (apply EvW.cmpF; exact rfl; exact rfl; exact rfl; omega) | (apply EvW.arN; exact rfl; exact rfl; exact rfl; refine i64_in ?_ ?_ <;> omega) | (apply EvW.pickF; exact rfl; exact rfl) | (apply EvW.lenRow; exact rfl; exact UndC.eq; assumption) | (apply EvW.idxRow; exact rfl; exact rfl; exact UndC.eq; exact SzC.eq; assumption; omega; omega) | (apply EvW.idxOwn; exact rfl; exact rfl; exact UndC.eq; exact SzC.eq; (focus ((repeat (first | exact Take.head | apply Take.tail)); done)); omega; omega) | (apply EvW.ldIntOwn; exact rfl; exact ScalC.eq; (focus ((repeat (first | exact Take.head | apply Take.tail)); done)); omega) | (apply EvW.fldRow; exact rfl; exact FldC.eq; assumption; omega)))
        | refine WC.seq ?_ | refine WC.region ?_ | refine WL.nil ?_ | refine WE.next ?_ | refine WC.block ?_ | refine WC.skip ?_ | refine WC.condT rfl ?_ | refine WC.condF rfl ?_ | refine WL.wanted rfl rfl rfl ?_
      (apply WL.stOwn; exact rfl; exact rfl; exact rfl; exact SzC.eq; exact rfl; exact rfl; (focus ((repeat (first | exact Take.head | apply Take.tail)); done)))
      · rw [List.length_map, List.length_singleton]; omega
      · rw [over_one (by rw [List.length_map]; omega), Nat.mul_one, Nat.add_zero]; exact .head
      refine WL.ownEq (cs' := (m.set ((g.lS k).getD j 0).toNat (m.getD ((g.lS k).getD j 0).toNat 0 + 1)).map i64) (len' := (m.set ((g.lS k).getD j 0).toNat (m.getD ((g.lS k).getD j 0).toNat 0 + 1)).length) .head (by rw [hset]) (by rw [hjn, List.map_set]) ?_
      repeat first
        | (apply WL.q; exact rfl; exact rfl; exact rfl; (first | (apply EvW.move; exact rfl) | (apply EvW.arN; exact rfl; exact rfl; exact rfl; refine i64_in ?_ ?_ <;> omega)))
        | refine WC.region ?_ | refine WL.nil ?_ | refine WE.next ?_ | refine WE.out ?_
      exact WE.again (s := (j, m)) ((j + 1, m.set ((g.lS k).getD j 0).toNat (m.getD ((g.lS k).getD j 0).toNat 0 + 1))) ⟨by simp only []; omega, hstep⟩ (by (focus ((repeat (first | exact trivial | (refine ⟨rfl, ?_⟩))); done))) (fun _ h => (by (try simp only []); exact h.keep (by (focus ((repeat (first | exact TakeL.nil | apply TakeL.cons | exact Take.head | apply Take.tail)); done))))) (by (try simp only []); omega)
    · obtain rfl : j = (g.lS k).length := by omega
      repeat first
        | (apply WL.q; exact rfl; exact rfl; exact rfl; (first | (apply EvW.move; exact rfl) | (apply EvW.assign; exact rfl) | (apply EvW.fieldAddr0; exact rfl; exact FldC.eq) | (apply EvW.load; exact rfl; exact ScalC.eq; (focus ((repeat (first | exact Take.head | apply Take.tail)); done)); exact rfl) | (apply EvW.cmpF; exact rfl; exact rfl; exact rfl; omega) | (apply EvW.arN; exact rfl; exact rfl; exact rfl; refine i64_in ?_ ?_ <;> omega) | (apply EvW.lenOwn; exact rfl; exact UndC.eq; (focus ((repeat (first | exact Take.head | apply Take.tail)); done)))))
        | refine WC.seq ?_ | refine WC.region ?_ | refine WL.nil ?_ | refine WE.next ?_ | refine WC.exit ?_ | refine WE.pass ?_ | refine WE.hit ?_ | refine WE.out ?_ | refine WC.condF rfl ?_
      exact WE.again (s := (k, sn)) ((k + 1, m)) ⟨by simp only []; omega, hs.2.1, fun i hi => by rw [g.told_step k i hi, hs.2.2 i hi, List.take_length]⟩ (by (focus ((repeat (first | exact trivial | (refine ⟨rfl, ?_⟩))); done))) (fun _ h => (by (try simp only []); exact h.keep (by (focus ((repeat (first | exact TakeL.nil | apply TakeL.cons | exact Take.head | apply Take.tail)); done))))) (by (try simp only []); omega)
  obtain rfl : k = 4 := by omega
  have hsn := hs.2.2
  have hsl := hs.2.1
  clear hs hk
  have hle1 := g.leC
  have hle2 := g.leG
  rw [g.sumP']
  have c1 := cnt_le g.wP g.secs.length
  repeat first
    | (apply WL.q; exact rfl; exact rfl; exact rfl; (first | (apply EvW.move; exact rfl) | (apply EvW.assign; exact rfl) | (apply EvW.fieldAddr0; exact rfl; exact FldC.eq) | (apply EvW.load; exact rfl; exact ScalC.eq; (focus ((repeat (first | exact Take.head | apply Take.tail)); done)); exact rfl) | (apply EvW.cmpF; exact rfl; exact rfl; exact rfl; omega) | (apply EvW.lenRow; exact rfl; exact UndC.eq; assumption)))
    | refine WC.seq ?_ | refine WC.region ?_ | refine WL.nil ?_ | refine WE.next ?_ | refine WC.block ?_ | refine WC.exit ?_ | refine WE.pass ?_ | refine WE.hit ?_ | refine WC.condF rfl ?_
  refine WC.loopK (σ := Nat × Int) [1, 3, 4, 5, 6, 77, 78] (fun s => [(11, i64 s.2), (79, i64 s.1)]) (fun s => [.blk q1 (cfgC g).toArray 30, .own 3 1 (v) (sn).length ((sn).map i64)]) (fun s => s.1 ≤ g.secs.length ∧ s.2 = cnt g.wP s.1) (fun s => g.secs.length - s.1) (0, (0 : Int)) (by (focus ((repeat (first | exact Pick.nil | (apply Pick.cons; exact rfl))); done))) (by (focus ((repeat (first | exact trivial | (refine ⟨rfl, ?_⟩))); done))) (fun _ h => h.keep (by (focus ((repeat (first | exact TakeL.nil | apply TakeL.cons | exact Take.head | apply Take.tail)); done)))) ⟨Nat.zero_le _, rfl⟩ (fun s hs => ?_)
  obtain ⟨i, m⟩ := s
  simp only [List.cons_append, List.nil_append] at hs ⊢
  by_cases hlt : (i : Int) < g.secs.length
  · have c4 := cnt_le g.wP i
    have c5 := cnt_succ g.wP i
    have hv := hsn i (by omega)
    have hin : (((i : Nat) : Int)).toNat = i := Int.toNat_natCast i
    by_cases h0 : 0 ≤ (g.secs.getD ((i : Nat) : Int).toNat default).oc
    · by_cases h1 : (g.secs.getD ((i : Nat) : Int).toNat default).oc < 4
      · have hv' : sn.getD ((i : Nat) : Int).toNat 0 = 1 := by rw [hin, hv]; unfold Cfg.told; exact if_pos ⟨h0, h1⟩
        by_cases hq : (g.secs.getD ((i : Nat) : Int).toNat default).k = 1
        · rw [if_pos (show g.wP i = true from by unfold Cfg.wP Cfg.in4 Cfg.qP; rw [decide_eq_true (show 0 ≤ (g.secs.getD i default).oc from h0), decide_eq_true (show (g.secs.getD i default).oc < 4 from h1), decide_eq_true (show (g.secs.getD i default).k = 1 from hq)]; rfl)] at c5
          repeat first
            | (apply WL.q; exact rfl; exact rfl; exact rfl; (first | (apply EvW.move; exact rfl) | (apply EvW.cmpT; exact rfl; exact rfl; exact rfl; omega) | (apply EvW.idxRow; exact rfl; exact rfl; exact UndC.eq; exact SzC.eq; assumption; omega; omega)))
            | refine WC.seq ?_ | refine WC.region ?_ | refine WL.nil ?_ | refine WE.next ?_ | refine WC.block ?_ | refine WC.skip ?_ | refine WC.condT rfl ?_
          (apply WL.q; exact rfl; exact rfl; exact rfl; (apply EvW.ldElem (xs := g.secs) (z := (default : Sec)) (f := secC); exact rfl; exact AggC.eq; exact SzC.eq; exact rfl; exact fun _ => rfl; assumption; omega))
          try refine WL.wanted rfl rfl rfl ?_
          (apply WL.alloc; exact rfl; exact ZvC.eq; exact rfl; intro x)
          repeat first
            | (apply WL.q; exact rfl; exact rfl; exact rfl; (first | (apply EvW.move; exact rfl) | (apply EvW.assign; exact rfl) | (apply EvW.fieldAddr0; exact rfl; exact FldC.eq) | (apply EvW.load; exact rfl; exact ScalC.eq; (focus ((repeat (first | exact Take.head | apply Take.tail)); done)); exact rfl) | (apply EvW.cmpT; exact rfl; exact rfl; exact rfl; omega) | (apply EvW.cmpF; exact rfl; exact rfl; exact rfl; omega) | (apply EvW.arN; exact rfl; exact rfl; exact rfl; refine i64_in ?_ ?_ <;> omega) | (apply EvW.pickT; exact rfl; exact rfl) | (apply EvW.idxOwn; exact rfl; exact rfl; exact UndC.eq; exact SzC.eq; (focus ((repeat (first | exact Take.head | apply Take.tail)); done)); omega; omega) | (apply EvW.ldIntOwn; exact rfl; exact ScalC.eq; (focus ((repeat (first | exact Take.head | apply Take.tail)); done)); omega)))
            | refine WC.seq ?_ | refine WC.region ?_ | refine WL.nil ?_ | refine WE.next ?_ | refine WC.skip ?_ | refine WE.out ?_ | refine WC.condT rfl ?_ | refine WC.condF rfl ?_ | refine WL.wanted rfl rfl rfl ?_ | (apply WL.store; exact rfl; exact rfl; (first | assumption | exact rfl); exact SzC.eq; (first | assumption | exact rfl); (focus ((repeat (first | apply UpdC.head | apply UpdC.tail | exact SetMany.nil | apply SetMany.cons | apply SetMany.succ)); done)))
          exact WE.again (s := (i, m)) ((i + 1, m + 1)) (by simp only []; omega) (by (focus ((repeat (first | exact trivial | (refine ⟨rfl, ?_⟩))); done))) (fun _ h => (by (try simp only []); exact h.keep (by (focus ((repeat (first | exact TakeL.nil | apply TakeL.cons | exact Take.head | apply Take.tail)); done))))) (by (try simp only []); omega)
        · rw [if_neg (show ¬ g.wP i = true from by unfold Cfg.wP Cfg.qP; rw [decide_eq_false (show ¬ (g.secs.getD i default).k = 1 from hq)]; simp)] at c5
          repeat first
            | (apply WL.q; exact rfl; exact rfl; exact rfl; (first | (apply EvW.move; exact rfl) | (apply EvW.cmpT; exact rfl; exact rfl; exact rfl; omega) | (apply EvW.idxRow; exact rfl; exact rfl; exact UndC.eq; exact SzC.eq; assumption; omega; omega)))
            | refine WC.seq ?_ | refine WC.region ?_ | refine WL.nil ?_ | refine WE.next ?_ | refine WC.block ?_ | refine WC.skip ?_ | refine WC.condT rfl ?_
          (apply WL.q; exact rfl; exact rfl; exact rfl; (apply EvW.ldElem (xs := g.secs) (z := (default : Sec)) (f := secC); exact rfl; exact AggC.eq; exact SzC.eq; exact rfl; exact fun _ => rfl; assumption; omega))
          try refine WL.wanted rfl rfl rfl ?_
          (apply WL.alloc; exact rfl; exact ZvC.eq; exact rfl; intro x)
          repeat first
            | (apply WL.q; exact rfl; exact rfl; exact rfl; (first | (apply EvW.move; exact rfl) | (apply EvW.assign; exact rfl) | (apply EvW.fieldAddr0; exact rfl; exact FldC.eq) | (apply EvW.load; exact rfl; exact ScalC.eq; (focus ((repeat (first | exact Take.head | apply Take.tail)); done)); exact rfl) | (apply EvW.cmpT; exact rfl; exact rfl; exact rfl; omega) | (apply EvW.cmpF; exact rfl; exact rfl; exact rfl; omega) | (apply EvW.arN; exact rfl; exact rfl; exact rfl; refine i64_in ?_ ?_ <;> omega) | (apply EvW.pickT; exact rfl; exact rfl) | (apply EvW.idxOwn; exact rfl; exact rfl; exact UndC.eq; exact SzC.eq; (focus ((repeat (first | exact Take.head | apply Take.tail)); done)); omega; omega) | (apply EvW.ldIntOwn; exact rfl; exact ScalC.eq; (focus ((repeat (first | exact Take.head | apply Take.tail)); done)); omega)))
            | refine WC.seq ?_ | refine WC.region ?_ | refine WL.nil ?_ | refine WE.next ?_ | refine WC.skip ?_ | refine WE.out ?_ | refine WC.condT rfl ?_ | refine WC.condF rfl ?_ | refine WL.wanted rfl rfl rfl ?_ | (apply WL.store; exact rfl; exact rfl; (first | assumption | exact rfl); exact SzC.eq; (first | assumption | exact rfl); (focus ((repeat (first | apply UpdC.head | apply UpdC.tail | exact SetMany.nil | apply SetMany.cons | apply SetMany.succ)); done)))
          exact WE.again (s := (i, m)) ((i + 1, m)) (by simp only []; omega) (by (focus ((repeat (first | exact trivial | (refine ⟨rfl, ?_⟩))); done))) (fun _ h => (by (try simp only []); exact h.keep (by (focus ((repeat (first | exact TakeL.nil | apply TakeL.cons | exact Take.head | apply Take.tail)); done))))) (by (try simp only []); omega)
      · have hv' : sn.getD ((i : Nat) : Int).toNat 0 = 0 := by rw [hin, hv]; unfold Cfg.told; exact if_neg (fun k => h1 k.2)
        rw [if_neg (show ¬ g.wP i = true from by unfold Cfg.wP Cfg.in4; rw [decide_eq_false (show ¬ (g.secs.getD i default).oc < 4 from h1)]; simp)] at c5
        repeat first
          | (apply WL.q; exact rfl; exact rfl; exact rfl; (first | (apply EvW.move; exact rfl) | (apply EvW.cmpT; exact rfl; exact rfl; exact rfl; omega) | (apply EvW.idxRow; exact rfl; exact rfl; exact UndC.eq; exact SzC.eq; assumption; omega; omega)))
          | refine WC.seq ?_ | refine WC.region ?_ | refine WL.nil ?_ | refine WE.next ?_ | refine WC.block ?_ | refine WC.skip ?_ | refine WC.condT rfl ?_
        (apply WL.q; exact rfl; exact rfl; exact rfl; (apply EvW.ldElem (xs := g.secs) (z := (default : Sec)) (f := secC); exact rfl; exact AggC.eq; exact SzC.eq; exact rfl; exact fun _ => rfl; assumption; omega))
        try refine WL.wanted rfl rfl rfl ?_
        (apply WL.alloc; exact rfl; exact ZvC.eq; exact rfl; intro x)
        repeat first
          | (apply WL.q; exact rfl; exact rfl; exact rfl; (first | (apply EvW.move; exact rfl) | (apply EvW.assign; exact rfl) | (apply EvW.fieldAddr0; exact rfl; exact FldC.eq) | (apply EvW.load; exact rfl; exact ScalC.eq; (focus ((repeat (first | exact Take.head | apply Take.tail)); done)); exact rfl) | (apply EvW.cmpT; exact rfl; exact rfl; exact rfl; omega) | (apply EvW.cmpF; exact rfl; exact rfl; exact rfl; omega) | (apply EvW.arN; exact rfl; exact rfl; exact rfl; refine i64_in ?_ ?_ <;> omega) | (apply EvW.pickT; exact rfl; exact rfl) | (apply EvW.pickF; exact rfl; exact rfl) | (apply EvW.idxOwn; exact rfl; exact rfl; exact UndC.eq; exact SzC.eq; (focus ((repeat (first | exact Take.head | apply Take.tail)); done)); omega; omega) | (apply EvW.ldIntOwn; exact rfl; exact ScalC.eq; (focus ((repeat (first | exact Take.head | apply Take.tail)); done)); omega)))
          | refine WC.seq ?_ | refine WC.region ?_ | refine WL.nil ?_ | refine WE.next ?_ | refine WC.skip ?_ | refine WE.out ?_ | refine WC.condF rfl ?_ | refine WL.wanted rfl rfl rfl ?_ | refine WL.unwanted rfl rfl rfl rfl ?_ | (apply WL.store; exact rfl; exact rfl; (first | assumption | exact rfl); exact SzC.eq; (first | assumption | exact rfl); (focus ((repeat (first | apply UpdC.head | apply UpdC.tail | exact SetMany.nil | apply SetMany.cons | apply SetMany.succ)); done)))
        exact WE.again (s := (i, m)) ((i + 1, m)) (by simp only []; omega) (by (focus ((repeat (first | exact trivial | (refine ⟨rfl, ?_⟩))); done))) (fun _ h => (by (try simp only []); exact h.keep (by (focus ((repeat (first | exact TakeL.nil | apply TakeL.cons | exact Take.head | apply Take.tail)); done))))) (by (try simp only []); omega)
    · have hv' : sn.getD ((i : Nat) : Int).toNat 0 = 0 := by rw [hin, hv]; unfold Cfg.told; exact if_neg (fun k => h0 k.1)
      rw [if_neg (show ¬ g.wP i = true from by unfold Cfg.wP Cfg.in4; rw [decide_eq_false (show ¬ 0 ≤ (g.secs.getD i default).oc from h0)]; simp)] at c5
      repeat first
        | (apply WL.q; exact rfl; exact rfl; exact rfl; (first | (apply EvW.move; exact rfl) | (apply EvW.cmpT; exact rfl; exact rfl; exact rfl; omega) | (apply EvW.idxRow; exact rfl; exact rfl; exact UndC.eq; exact SzC.eq; assumption; omega; omega)))
        | refine WC.seq ?_ | refine WC.region ?_ | refine WL.nil ?_ | refine WE.next ?_ | refine WC.block ?_ | refine WC.skip ?_ | refine WC.condT rfl ?_
      (apply WL.q; exact rfl; exact rfl; exact rfl; (apply EvW.ldElem (xs := g.secs) (z := (default : Sec)) (f := secC); exact rfl; exact AggC.eq; exact SzC.eq; exact rfl; exact fun _ => rfl; assumption; omega))
      try refine WL.wanted rfl rfl rfl ?_
      (apply WL.alloc; exact rfl; exact ZvC.eq; exact rfl; intro x)
      repeat first
        | (apply WL.q; exact rfl; exact rfl; exact rfl; (first | (apply EvW.move; exact rfl) | (apply EvW.assign; exact rfl) | (apply EvW.fieldAddr0; exact rfl; exact FldC.eq) | (apply EvW.load; exact rfl; exact ScalC.eq; (focus ((repeat (first | exact Take.head | apply Take.tail)); done)); exact rfl) | (apply EvW.cmpF; exact rfl; exact rfl; exact rfl; omega) | (apply EvW.arN; exact rfl; exact rfl; exact rfl; refine i64_in ?_ ?_ <;> omega) | (apply EvW.pickF; exact rfl; exact rfl) | (apply EvW.idxOwn; exact rfl; exact rfl; exact UndC.eq; exact SzC.eq; (focus ((repeat (first | exact Take.head | apply Take.tail)); done)); omega; omega) | (apply EvW.ldIntOwn; exact rfl; exact ScalC.eq; (focus ((repeat (first | exact Take.head | apply Take.tail)); done)); omega)))
        | refine WC.seq ?_ | refine WC.region ?_ | refine WL.nil ?_ | refine WE.next ?_ | refine WC.skip ?_ | refine WE.out ?_ | refine WC.condF rfl ?_ | refine WL.unwanted rfl rfl rfl rfl ?_ | (apply WL.store; exact rfl; exact rfl; (first | assumption | exact rfl); exact SzC.eq; (first | assumption | exact rfl); (focus ((repeat (first | apply UpdC.head | apply UpdC.tail | exact SetMany.nil | apply SetMany.cons | apply SetMany.succ)); done)))
      exact WE.again (s := (i, m)) ((i + 1, m)) (by simp only []; omega) (by (focus ((repeat (first | exact trivial | (refine ⟨rfl, ?_⟩))); done))) (fun _ h => (by (try simp only []); exact h.keep (by (focus ((repeat (first | exact TakeL.nil | apply TakeL.cons | exact Take.head | apply Take.tail)); done))))) (by (try simp only []); omega)
  obtain rfl : i = g.secs.length := by omega
  obtain rfl : m = cnt g.wP g.secs.length := hs.2
  repeat first
    | (apply WL.q; exact rfl; exact rfl; exact rfl; (first | (apply EvW.move; exact rfl) | (apply EvW.assign; exact rfl) | (apply EvW.fieldAddr0; exact rfl; exact FldC.eq) | (apply EvW.load; exact rfl; exact ScalC.eq; (focus ((repeat (first | exact Take.head | apply Take.tail)); done)); exact rfl) | (apply EvW.cmpT; exact rfl; exact rfl; exact rfl; omega) | (apply EvW.cmpF; exact rfl; exact rfl; exact rfl; omega) | (apply EvW.pickT; exact rfl; exact rfl) | (apply EvW.lenRow; exact rfl; exact UndC.eq; assumption)))
    | refine WC.seq ?_ | refine WC.region ?_ | refine WL.nil ?_ | refine WE.next ?_ | refine WC.exit ?_ | refine WE.pass ?_ | refine WE.hit ?_ | refine WC.condF rfl ?_ | refine WC.ret ?_ | refine WL.wanted rfl rfl rfl ?_
  refine WE.bare ?_
  refine WE.ret1 rfl rfl ?_
  rfl
end Go.Proofs.Ytdnpofigagdabaa
