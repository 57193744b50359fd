/- Own lemmas: the texts JnH, JnI, JnJ, JnK, JnL, JnM, LibAC, JnN, LibAH, JnO, JnP. -/
import Derived.Test.YtknclcjmfgdphaaJnPfM3
namespace Go.Proofs.Ytknclcjmfgdphaa
open Go.RowKit Go.BK
theorem sorted_put {s1 s2 : List Fd} {x : Fd} (h : (s1 ++ s2).Pairwise kle) (h1 : ∀ y ∈ s1, kle y x) (h2 : ∀ y ∈ s2, kle x y) : (s1 ++ x :: s2).Pairwise kle := by
  rw [List.pairwise_append] at h ⊢
  refine ⟨h.1, List.pairwise_cons.2 ⟨h2, h.2.1⟩, fun a ha b hb => ?_⟩
  rcases List.mem_cons.1 hb with rfl | hb
  · exact h1 a ha
  · exact h.2.2 a ha b hb
theorem sorted_le_last {t : List Fd} {y x : Fd} (h : (t ++ [y]).Pairwise kle) (hy : kle y x) : ∀ z ∈ t ++ [y], kle z x := fun z hz => by
  rw [List.pairwise_append] at h
  rcases List.mem_append.1 hz with hz | hz
  · exact kle_trans (h.2.2 z hz y (by simp)) hy
  · rw [List.mem_singleton] at hz; rw [hz]; exact hy
theorem snoc_cases {α : Type} (l : List α) : l = [] ∨ ∃ t y, l = t ++ [y] := by
  rcases List.eq_nil_or_concat l with h | ⟨t, y, h⟩
  · exact .inl h
  · exact .inr ⟨t, y, by rw [h]; exact List.concat_eq_append⟩
set_option maxHeartbeats 1000000 in
theorem insert_spec (v : Value) (p m q : List Fd) (a b : Int) (w : World) (S : BSet) (hS : (sepL [.own 70 6 (v) (p ++ (m ++ q)).length ((p ++ (m ++ q)).flatMap fdC)]).sat S w) (h1 : OneV (p ++ (m ++ q))) (hn : (p ++ (m ++ q)).length ≤ 1048576) (ha : a = p.length) (hb : b = p.length + m.length) :
    Tri Try.prog 78 #[v, i64 a, i64 b, .func (.func 34) #[] #[]] w S fun u A => u = .tuple #[] ∧ ∃ m', A = [.own 70 6 (v) (p ++ (m' ++ q)).length ((p ++ (m' ++ q)).flatMap fdC)] ∧ m'.Perm m ∧ m'.Pairwise kle := by
  refine Tri.enter (l := [v, i64 a, i64 b, .func (.func 34) #[] #[]]) Try.func78 rfl Try.ntmps78 rfl [(0, v), (1, i64 a), (2, i64 b), (3, .func (.func 34) #[] #[])] (subA rfl) hS ?_
  have hln := hn
  simp only [List.length_append] at hn
  by_cases hm0 : m = []
  · subst hm0
    simp only [List.length_nil] at hb
    repeat first
      | (apply WL.q; exact rfl; exact rfl; exact rfl; (first | (apply EvW.move; exact rfl) | (apply EvW.assign; exact rfl) | (apply EvW.arN; exact rfl; exact rfl; exact rfl; refine i64_in ?_ ?_ <;> omega)))
      | refine WC.seq ?_ | refine WC.region ?_ | refine WL.nil ?_ | refine WE.next ?_ | refine WC.block ?_
    refine WC.loopK (σ := Nat) [0, 1, 2, 3] (fun s => [(8, i64 (a + 1))]) (fun s => [.own 70 6 (v) (p ++ ([] ++ q)).length ((p ++ ([] ++ q)).flatMap fdC)]) (fun s => s = 0) (fun s => s) 0 (by (focus ((repeat (first | exact Pick.nil | (apply Pick.cons; exact rfl))); done))) (by (focus ((repeat (first | exact trivial | (refine ⟨rfl, ?_⟩))); done))) (fun _ h => h.keep (by repeat constructor)) rfl (fun s hs => ?_)
    obtain ⟨k, rfl⟩ : ∃ q, q = s := ⟨s, rfl⟩
    simp only [List.cons_append, List.nil_append] at hs ⊢
    repeat first
      | (apply WL.q; exact rfl; exact rfl; exact rfl; (first | (apply EvW.move; exact rfl) | (apply EvW.cmpF; exact rfl; exact rfl; exact rfl; omega)))
      | refine WC.seq ?_ | refine WC.region ?_ | refine WL.nil ?_ | refine WE.next ?_ | refine WC.exit ?_ | refine WE.pass ?_ | refine WE.hit ?_ | refine WC.condF rfl ?_
    refine WE.keep (xs := [.own 70 6 (v) (p ++ ([] ++ q)).length ((p ++ ([] ++ q)).flatMap fdC)]) (by repeat constructor) ?_
    first | refine WE.end0 rfl ?_ | refine WE.ret0 rfl ?_
    exact ⟨rfl, [], rfl, List.Perm.refl _, List.Pairwise.nil⟩
  obtain ⟨m0, mt, rfl⟩ : ∃ m0 mt, m = m0 :: mt := List.exists_cons_of_ne_nil hm0
  simp only [List.length_cons] at hn hb
  repeat first
    | (apply WL.q; exact rfl; exact rfl; exact rfl; (first | (apply EvW.move; exact rfl) | (apply EvW.assign; exact rfl) | (apply EvW.arN; exact rfl; exact rfl; exact rfl; refine i64_in ?_ ?_ <;> omega)))
    | refine WC.seq ?_ | refine WC.region ?_ | refine WL.nil ?_ | refine WE.next ?_ | refine WC.block ?_
  rw [show a + 1 = ((p.length + [m0].length : Nat) : Int) by rw [ha]; rfl]
  refine WC.loopK (σ := List Fd × List Fd) [0, 1, 2, 3] (fun s => [(8, i64 ((p.length + s.1.length : Nat) : Int))]) (fun s => [.own 70 6 (v) (p ++ (s.1 ++ (s.2 ++ q))).length ((p ++ (s.1 ++ (s.2 ++ q))).flatMap fdC)]) (fun s => s.1.Pairwise kle ∧ (s.1 ++ s.2).Perm (m0 :: mt)) (fun s => s.2.length) ([m0], mt) (by (focus ((repeat (first | exact Pick.nil | (apply Pick.cons; exact rfl))); done))) (by (focus ((repeat (first | exact trivial | (refine ⟨rfl, ?_⟩))); done))) (fun _ h => h.keep (by repeat constructor)) ⟨List.pairwise_singleton _ _, List.Perm.refl _⟩ (fun s hs => ?_)
  obtain ⟨sa, r⟩ := s
  simp only [List.cons_append, List.nil_append] at hs ⊢
  obtain ⟨hsort, hperm⟩ := hs
  have hpl := hperm.length_eq
  simp only [List.length_append, List.length_cons] at hpl
  have hall : (p ++ (sa ++ (r ++ q))).Perm (p ++ (m0 :: mt ++ q)) := by
    rw [← List.append_assoc sa]
    exact (hperm.append_right q).append_left p
  have hone := h1.perm hall
  cases r with
  | nil =>
    have hsl : ((p.length + sa.length : Nat) : Int) = b := by simp only [List.length_nil] at hpl; omega
    rw [List.append_nil] at hperm
    rw [List.nil_append]
    repeat first
      | (apply WL.q; exact rfl; exact rfl; exact rfl; (first | (apply EvW.move; exact rfl) | (apply EvW.cmpF; exact rfl; exact rfl; exact rfl; omega)))
      | refine WC.seq ?_ | refine WC.region ?_ | refine WL.nil ?_ | refine WE.next ?_ | refine WC.exit ?_ | refine WE.pass ?_ | refine WE.hit ?_ | refine WC.condF rfl ?_
    refine WE.keep (xs := [.own 70 6 (v) (p ++ (sa ++ q)).length ((p ++ (sa ++ q)).flatMap fdC)]) (by repeat constructor) ?_
    first | refine WE.end0 rfl ?_ | refine WE.ret0 rfl ?_
    exact ⟨rfl, sa, rfl, hperm, hsort⟩
  | cons x r =>
    simp only [List.length_cons] at hpl
    have hlt : ((p.length + sa.length : Nat) : Int) < b := by omega
    have hrl : (x :: r).length = r.length + 1 := rfl
    have hxo : x.v.oneCell' = true := hone x (by simp)
    repeat first
      | (apply WL.q; exact rfl; exact rfl; exact rfl; (first | (apply EvW.move; exact rfl) | (apply EvW.assign; exact rfl) | (apply EvW.cmpT; exact rfl; exact rfl; exact rfl; omega)))
      | refine WC.seq ?_ | refine WC.region ?_ | refine WL.nil ?_ | refine WE.next ?_ | refine WC.block ?_ | refine WC.skip ?_ | refine WC.condT rfl ?_
    have e0 : p ++ (sa ++ (x :: r ++ q)) = p ++ (sa ++ (x :: ([] ++ (r ++ q)))) := rfl
    rw [e0]
    refine WC.loopK (σ := List Fd × List Fd) [0, 1, 2, 3, 8] (fun s => [(9, i64 ((p.length + s.1.length : Nat) : Int))]) (fun s => [.own 70 6 (v) (p ++ (s.1 ++ (x :: (s.2 ++ (r ++ q))))).length ((p ++ (s.1 ++ (x :: (s.2 ++ (r ++ q))))).flatMap fdC)]) (fun s => s.1 ++ s.2 = sa ∧ ∀ y ∈ s.2, ¬ kle y x) (fun s => s.1.length) (sa, []) (by (focus ((repeat (first | exact Pick.nil | (apply Pick.cons; exact rfl))); done))) (by (focus ((repeat (first | exact trivial | (refine ⟨rfl, ?_⟩))); done))) (fun _ h => h.keep (by repeat constructor)) ⟨List.append_nil _, fun y hy => by cases hy⟩ (fun s hs => ?_)
    obtain ⟨s1, s2⟩ := s
    simp only [List.cons_append, List.nil_append] at hs ⊢
    obtain ⟨hs12, hgt⟩ := hs
    have hs2x : ∀ y ∈ s2, kle x y := fun y hy => kle_not (hgt y hy)
    have hfin : ∀ (hle : ∀ y ∈ s1, kle y x), (s1 ++ x :: s2).Pairwise kle ∧ ((s1 ++ x :: s2) ++ r).Perm (m0 :: mt) := fun hle => by
      refine ⟨sorted_put (by rw [hs12]; exact hsort) hle hs2x, ?_⟩
      refine List.Perm.trans ?_ hperm
      rw [← hs12]
      have e1 : s1 ++ x :: s2 ++ r = s1 ++ x :: (s2 ++ r) := by simp [List.append_assoc]
      have e2 : s1 ++ s2 ++ x :: r = s1 ++ (s2 ++ x :: r) := by simp [List.append_assoc]
      rw [e1, e2]
      exact List.Perm.append_left s1 (List.perm_middle (l₁ := s2) (l₂ := r) (a := x)).symm
    have hsl12 : s1.length + s2.length = sa.length := by rw [← hs12, List.length_append]
    have hend : p ++ (s1 ++ (x :: (s2 ++ (r ++ q)))) = p ++ ((s1 ++ x :: s2) ++ (r ++ q)) := by simp [List.append_assoc]
    have hpl2 : (p.length + sa.length : Nat) + 1 = p.length + (s1 ++ x :: s2).length := by rw [List.length_append, List.length_cons]; omega
    rcases snoc_cases s1 with h0 | ⟨t, y, ht⟩
    · have hf := hfin (by rw [h0]; intro y hy; cases hy)
      have hj0 : ((p.length + s1.length : Nat) : Int) = a := by rw [h0]; simp; omega
      repeat first
        | refine WC.seq ?_
      repeat refine WC.seq ?_
      apply WC.drawQ Try.mixed
      · (focus ((repeat (first | exact Restr.nil | (apply Restr.keep; exact rfl; exact rfl) | (apply Restr.drop; exact rfl))); done))
      · exact rfl
      · decide +kernel
      · decide +kernel
      · repeat first
          | exact Draws.nil
          | (apply Draws.skip; exact rfl; exact rfl)
          | (apply Draws.q0; exact rfl
             (first | (apply EvW.move; exact rfl) | (apply EvW.cmpF; exact rfl; exact rfl; exact rfl; omega) | (apply EvW.pickF; exact rfl; exact rfl)))
      apply WE.writ
      · (focus ((repeat (first | exact Writ.nil | apply Writ.some | apply Writ.none)); done))
      rw [hend]
      repeat first
        | (apply WL.q; exact rfl; exact rfl; exact rfl; (first | (apply EvW.move; exact rfl) | (apply EvW.assign; exact rfl) | (apply EvW.arN; exact rfl; exact rfl; exact rfl; refine i64_in ?_ ?_ <;> omega)))
        | refine WC.region ?_ | refine WL.nil ?_ | refine WE.next ?_ | refine WC.exit ?_ | refine WE.pass ?_ | refine WE.hit ?_ | refine WE.out ?_ | refine WC.condF rfl ?_
      rw [show ((p.length + sa.length : Nat) : Int) + 1 = ((p.length + (s1 ++ x :: s2).length : Nat) : Int) by omega]
      exact WE.again (s := (sa, x :: r)) ((s1 ++ x :: s2, r)) hf (by (focus ((repeat (first | exact trivial | (refine ⟨rfl, ?_⟩))); done))) (fun _ h => (by (try simp only []); exact h.keep (by repeat constructor))) (by (try simp only []); omega)
    subst ht
    have hsl1 : (t ++ [y]).length = t.length + 1 := by simp
    have hja : ((p.length + (t ++ [y]).length : Nat) : Int) > a := by omega
    have e : p ++ ((t ++ [y]) ++ (x :: (s2 ++ (r ++ q)))) = (p ++ t) ++ y :: ([] ++ x :: (s2 ++ (r ++ q))) := by simp [List.append_assoc]
    have hPl : (p ++ t).length = p.length + t.length := List.length_append
    obtain ⟨w1', w2, _, _, w5, w6, w7⟩ := swp_two (p ++ t) y x [] (s2 ++ (r ++ q))
    have hL : ∀ c d : Fd, ((p ++ t) ++ c :: ([] ++ d :: (s2 ++ (r ++ q)))).length = p.length + t.length + 2 + s2.length + r.length + q.length := fun c d => by simp only [List.length_append, List.length_cons, List.length_nil]; omega
    have hL1 := hL y x
    have hL2 := hL y y
    have hL3 := hL x y
    simp only [List.length_nil, Nat.add_zero] at w2 w5 w7
    have hyo : y.v.oneCell' = true := hone y (by rw [← hs12]; simp)
    have k1 : (((p.length + (t ++ [y]).length : Nat) : Int) - 1).toNat = (p ++ t).length := by omega
    have k2 : (((p.length + (t ++ [y]).length : Nat) : Int)).toNat = (p ++ t).length + 1 := by omega
    rw [e]
    by_cases hle : kle y x
    · have hc : ¬ cmpV x y < 0 := fun h => (cmpV_lt x y).1 h hle
      have hsrt : (t ++ [y]).Pairwise kle := by
        rw [← hs12, List.pairwise_append] at hsort
        exact hsort.1
      have hf := hfin (sorted_le_last hsrt hle)
      repeat first
        | refine WC.seq ?_
      repeat refine WC.seq ?_
      apply WC.drawE ([[.own 70 6 (v) ((p ++ t) ++ y :: ([] ++ x :: (s2 ++ (r ++ q)))).length (((p ++ t) ++ y :: ([] ++ x :: (s2 ++ (r ++ q)))).flatMap fdC)]]) ([]) Try.mixed
      · (focus ((repeat (first | exact Restr.nil | (apply Restr.keep; exact rfl; exact rfl) | (apply Restr.drop; exact rfl))); done))
      · exact rfl
      · exact rfl
      · decide +kernel
      · decide +kernel
      · decide +kernel
      · decide +kernel
      · repeat first
            | exact Draws.nil
            | (apply Draws.skip; exact rfl; exact rfl)
            | (apply Draws.at 0; exact rfl; decide +kernel
               (first | (apply EvW.move; exact rfl) | (apply EvW.cmpT; exact rfl; exact rfl; exact rfl; omega) | (apply EvW.idxOwn; exact rfl; exact rfl; exact UndC.eq; exact SzC.eq; (focus ((repeat constructor); done)); omega; omega)))
            | (apply Draws.at 1; exact rfl; decide +kernel
               fail)
            | (apply Draws.two 0; exact rfl; decide +kernel
               fail
               fail)
            | (apply Draws.at 2; exact rfl; decide +kernel
               fail)
            | (apply Draws.two 1; exact rfl; decide +kernel
               fail
               fail)
        (apply Draws.at 0; exact rfl; decide +kernel; (apply EvW.ldFd x; exact rfl; exact AggC.eq; exact SzC.eq; exact .head; (rw [k2]; omega); (rw [k2]; exact w2)))
        repeat first
            | exact Draws.nil
            | (apply Draws.skip; exact rfl; exact rfl)
            | (apply Draws.at 0; exact rfl; decide +kernel
               (first | (apply EvW.move; exact rfl) | (apply EvW.arN; exact rfl; exact rfl; exact rfl; refine i64_in ?_ ?_ <;> omega) | (apply EvW.idxOwn; exact rfl; exact rfl; exact UndC.eq; exact SzC.eq; (focus ((repeat constructor); done)); omega; omega)))
            | (apply Draws.at 1; exact rfl; decide +kernel
               fail)
            | (apply Draws.two 0; exact rfl; decide +kernel
               fail
               fail)
            | (apply Draws.at 2; exact rfl; decide +kernel
               fail)
            | (apply Draws.two 1; exact rfl; decide +kernel
               fail
               fail)
        (apply Draws.at 0; exact rfl; decide +kernel; (apply EvW.ldFd y; exact rfl; exact AggC.eq; exact SzC.eq; exact .head; (rw [k1]; omega); (rw [k1]; exact w1')))
        repeat first
            | exact Draws.nil
            | (apply Draws.skip; exact rfl; exact rfl)
            | (apply Draws.at 0; exact rfl; decide +kernel
               fail)
            | (apply Draws.at 1; exact rfl; decide +kernel
               fail)
            | (apply Draws.two 0; exact rfl; decide +kernel
               fail
               fail)
            | (apply Draws.at 2; exact rfl; decide +kernel
               fail)
            | (apply Draws.two 1; exact rfl; decide +kernel
               fail
               fail)
        (apply Draws.at 0; exact rfl; decide +kernel; (apply EvW.callVQ (caps := []); exact rfl; exact rfl; exact fun w1 S1 hS1 _ _ => cmp_spec x y w1 S1 hS1 hxo hyo; exact fun w => Try.call34 _ w; exact fun _ _ h => h))
        repeat first
            | exact Draws.nil
            | (apply Draws.skip; exact rfl; exact rfl)
            | (apply Draws.at 0; exact rfl; decide +kernel
               (first | (apply EvW.cmpF; exact rfl; exact rfl; exact rfl; omega) | (apply EvW.pickT; exact rfl; exact rfl)))
            | (apply Draws.at 1; exact rfl; decide +kernel
               fail)
            | (apply Draws.two 0; exact rfl; decide +kernel
               fail
               fail)
            | (apply Draws.at 2; exact rfl; decide +kernel
               fail)
            | (apply Draws.two 1; exact rfl; decide +kernel
               fail
               fail)
      apply WE.writ
      · (focus ((repeat (first | exact Writ.nil | apply Writ.some | apply Writ.none)); done))
      rw [← e, hend]
      repeat first
        | (apply WL.q; exact rfl; exact rfl; exact rfl; (first | (apply EvW.move; exact rfl) | (apply EvW.assign; exact rfl) | (apply EvW.arN; exact rfl; exact rfl; exact rfl; refine i64_in ?_ ?_ <;> omega)))
        | refine WC.region ?_ | refine WL.nil ?_ | refine WE.next ?_ | refine WC.exit ?_ | refine WE.pass ?_ | refine WE.hit ?_ | refine WE.out ?_ | refine WC.condF rfl ?_
      rw [show ((p.length + sa.length : Nat) : Int) + 1 = ((p.length + ((t ++ [y]) ++ x :: s2).length : Nat) : Int) by omega]
      exact WE.again (s := (sa, x :: r)) (((t ++ [y]) ++ x :: s2, r)) hf (by (focus ((repeat (first | exact trivial | (refine ⟨rfl, ?_⟩))); done))) (fun _ h => (by (try simp only []); exact h.keep (by repeat constructor))) (by (try simp only []); omega)
    · have hc : cmpV x y < 0 := (cmpV_lt x y).2 hle
      repeat first
        | refine WC.seq ?_
      repeat refine WC.seq ?_
      apply WC.drawE ([[.own 70 6 (v) ((p ++ t) ++ y :: ([] ++ x :: (s2 ++ (r ++ q)))).length (((p ++ t) ++ y :: ([] ++ x :: (s2 ++ (r ++ q)))).flatMap fdC)]]) ([]) Try.mixed
      · (focus ((repeat (first | exact Restr.nil | (apply Restr.keep; exact rfl; exact rfl) | (apply Restr.drop; exact rfl))); done))
      · exact rfl
      · exact rfl
      · decide +kernel
      · decide +kernel
      · decide +kernel
      · decide +kernel
      · repeat first
            | exact Draws.nil
            | (apply Draws.skip; exact rfl; exact rfl)
            | (apply Draws.at 0; exact rfl; decide +kernel
               (first | (apply EvW.move; exact rfl) | (apply EvW.cmpT; exact rfl; exact rfl; exact rfl; omega) | (apply EvW.idxOwn; exact rfl; exact rfl; exact UndC.eq; exact SzC.eq; (focus ((repeat constructor); done)); omega; omega)))
            | (apply Draws.at 1; exact rfl; decide +kernel
               fail)
            | (apply Draws.two 0; exact rfl; decide +kernel
               fail
               fail)
            | (apply Draws.at 2; exact rfl; decide +kernel
               fail)
            | (apply Draws.two 1; exact rfl; decide +kernel
               fail
               fail)
        (apply Draws.at 0; exact rfl; decide +kernel; (apply EvW.ldFd x; exact rfl; exact AggC.eq; exact SzC.eq; exact .head; (rw [k2]; omega); (rw [k2]; exact w2)))
        repeat first
            | exact Draws.nil
            | (apply Draws.skip; exact rfl; exact rfl)
            | (apply Draws.at 0; exact rfl; decide +kernel
               (first | (apply EvW.move; exact rfl) | (apply EvW.arN; exact rfl; exact rfl; exact rfl; refine i64_in ?_ ?_ <;> omega) | (apply EvW.idxOwn; exact rfl; exact rfl; exact UndC.eq; exact SzC.eq; (focus ((repeat constructor); done)); omega; omega)))
            | (apply Draws.at 1; exact rfl; decide +kernel
               fail)
            | (apply Draws.two 0; exact rfl; decide +kernel
               fail
               fail)
            | (apply Draws.at 2; exact rfl; decide +kernel
               fail)
            | (apply Draws.two 1; exact rfl; decide +kernel
               fail
               fail)
        (apply Draws.at 0; exact rfl; decide +kernel; (apply EvW.ldFd y; exact rfl; exact AggC.eq; exact SzC.eq; exact .head; (rw [k1]; omega); (rw [k1]; exact w1')))
        repeat first
            | exact Draws.nil
            | (apply Draws.skip; exact rfl; exact rfl)
            | (apply Draws.at 0; exact rfl; decide +kernel
               fail)
            | (apply Draws.at 1; exact rfl; decide +kernel
               fail)
            | (apply Draws.two 0; exact rfl; decide +kernel
               fail
               fail)
            | (apply Draws.at 2; exact rfl; decide +kernel
               fail)
            | (apply Draws.two 1; exact rfl; decide +kernel
               fail
               fail)
        (apply Draws.at 0; exact rfl; decide +kernel; (apply EvW.callVQ (caps := []); exact rfl; exact rfl; exact fun w1 S1 hS1 _ _ => cmp_spec x y w1 S1 hS1 hxo hyo; exact fun w => Try.call34 _ w; exact fun _ _ h => h))
        repeat first
            | exact Draws.nil
            | (apply Draws.skip; exact rfl; exact rfl)
            | (apply Draws.at 0; exact rfl; decide +kernel
               (first | (apply EvW.cmpT; exact rfl; exact rfl; exact rfl; omega) | (apply EvW.pickT; exact rfl; exact rfl)))
            | (apply Draws.at 1; exact rfl; decide +kernel
               fail)
            | (apply Draws.two 0; exact rfl; decide +kernel
               fail
               fail)
            | (apply Draws.at 2; exact rfl; decide +kernel
               fail)
            | (apply Draws.two 1; exact rfl; decide +kernel
               fail
               fail)
      apply WE.writ
      · (focus ((repeat (first | exact Writ.nil | apply Writ.some | apply Writ.none)); done))
      repeat first
        | refine WC.seq ?_ | refine WE.next ?_ | refine WC.block ?_ | refine WC.skip ?_ | refine WC.condT rfl ?_
      repeat refine WC.seq ?_
      refine WC.keep (xs := [.own 70 6 (v) (((p ++ t) ++ y :: ([] ++ x :: (s2 ++ (r ++ q))))).length ((((p ++ t) ++ y :: ([] ++ x :: (s2 ++ (r ++ q))))).flatMap fdC)]) (by repeat constructor) ?_
      apply WC.par _ (fun c : Ch => [.own 70 6 (v) (((p ++ t) ++ y :: ([] ++ x :: (s2 ++ (r ++ q))))).length ((((p ++ t) ++ y :: ([] ++ x :: (s2 ++ (r ++ q))))).flatMap fdC), .own 70 6 (v) (((p ++ t) ++ y :: ([] ++ y :: (s2 ++ (r ++ q))))).length ((((p ++ t) ++ y :: ([] ++ y :: (s2 ++ (r ++ q))))).flatMap fdC), .own 70 6 (v) (((p ++ t) ++ x :: ([] ++ y :: (s2 ++ (r ++ q))))).length ((((p ++ t) ++ x :: ([] ++ y :: (s2 ++ (r ++ q))))).flatMap fdC)]) [none, some 15, some 17] [some 15, some 17, none] [] Try.mixed
      · (focus ((repeat (first | exact Restr.nil | (apply Restr.keep; exact rfl; exact rfl) | (apply Restr.drop; exact rfl))); done))
      · intro c; exact (by repeat constructor)
      · exact rfl
      · decide +kernel
      · decide +kernel
      · intro c
        (apply Par.quiet _ [true, false, false]; exact rfl; decide +kernel; exact rfl; intro R; refine ⟨_, (by repeat constructor), ?_⟩;
             (first | (apply EvW.move; exact rfl)))
        (apply Par.quiet _ [true, false, false]; exact rfl; decide +kernel; exact rfl; intro R; refine ⟨_, (by repeat constructor), ?_⟩;
             (first | (apply EvW.move; exact rfl)))
        (apply Par.quiet _ [false, false, false]; exact rfl; decide +kernel; exact rfl; intro R; refine ⟨_, (by repeat constructor), ?_⟩;
             (first | (apply EvW.move; exact rfl)))
        (apply Par.quiet _ [false, false, false]; exact rfl; decide +kernel; exact rfl; intro R; refine ⟨_, (by repeat constructor), ?_⟩;
             (first | (apply EvW.move; exact rfl)))
        (apply Par.quiet _ [false, false, false]; exact rfl; decide +kernel; exact rfl; intro R; refine ⟨_, (by repeat constructor), ?_⟩;
             (first | (apply EvW.arN; exact rfl; exact rfl; exact rfl; refine i64_in ?_ ?_ <;> omega)))
        (apply Par.quiet _ [true, false, false]; exact rfl; decide +kernel; exact rfl; intro R; refine ⟨_, (by repeat constructor), ?_⟩;
             (first | (apply EvW.move; exact rfl)))
        (apply Par.quiet _ [true, false, false]; exact rfl; decide +kernel; exact rfl; intro R; refine ⟨_, (by repeat constructor), ?_⟩;
             (first | (apply EvW.move; exact rfl)))
        (apply Par.quiet _ [true, false, false]; exact rfl; decide +kernel; exact rfl; intro R; refine ⟨_, (by repeat constructor), ?_⟩;
             (first | (apply EvW.arN; exact rfl; exact rfl; exact rfl; refine i64_in ?_ ?_ <;> omega)))
        (apply Par.quiet _ [true, false, false]; exact rfl; decide +kernel; exact rfl; intro R; refine ⟨_, (by repeat constructor), ?_⟩;
             (first | (apply EvW.idxOwn; exact rfl; exact rfl; exact UndC.eq; exact SzC.eq; (focus ((repeat constructor); done)); omega; omega)))
        apply Par.quiet _ [true, false, false]
        · exact rfl
        · decide +kernel
        · exact rfl
        · intro R
          refine ⟨_, (by repeat constructor), ?_⟩
          (apply EvW.ldFd y; exact rfl; exact AggC.eq; exact SzC.eq; exact .head; (rw [k1]; omega); (rw [k1]; exact w1'))
        (apply Par.quiet _ [true, false, false]; exact rfl; decide +kernel; exact rfl; intro R; refine ⟨_, (by repeat constructor), ?_⟩;
             (first | (apply EvW.move; exact rfl)))
        (apply Par.quiet _ [true, false, false]; exact rfl; decide +kernel; exact rfl; intro R; refine ⟨_, (by repeat constructor), ?_⟩;
             (first | (apply EvW.move; exact rfl)))
        (apply Par.quiet _ [true, false, false]; exact rfl; decide +kernel; exact rfl; intro R; refine ⟨_, (by repeat constructor), ?_⟩;
             (first | (apply EvW.idxOwn; exact rfl; exact rfl; exact UndC.eq; exact SzC.eq; (focus ((repeat constructor); done)); omega; omega)))
        apply Par.quiet _ [true, false, false]
        · exact rfl
        · decide +kernel
        · exact rfl
        · intro R
          refine ⟨_, (by repeat constructor), ?_⟩
          (apply EvW.ldFd x; exact rfl; exact AggC.eq; exact SzC.eq; exact .head; (rw [k2]; omega); (rw [k2]; exact w2))
        (apply Par.quiet _ [true, false, false]; exact rfl; decide +kernel; exact rfl; intro R; refine ⟨_, (by repeat constructor), ?_⟩;
             (first | (apply EvW.idxOwn; exact rfl; exact rfl; exact UndC.eq; exact SzC.eq; (focus ((repeat constructor); done)); omega; omega)))
        apply Par.eff _ [true, false, false] [false, true, false] [false, false, false]
        · exact rfl
        · exact rfl
        · decide +kernel
        · intro R
          refine ⟨_, _, _, (by repeat constructor), (by repeat constructor), (by repeat constructor), ?_⟩
          (apply EffW.stFd y; exact rfl; exact rfl; exact SzC.eq; exact hyo; (rw [k2]; omega); (rw [k2]; exact w5))
        (apply Par.quiet _ [false, true, false]; exact rfl; decide +kernel; exact rfl; intro R; refine ⟨_, (by repeat constructor), ?_⟩;
             (first | (apply EvW.idxOwn; exact rfl; exact rfl; exact UndC.eq; exact SzC.eq; (focus ((repeat constructor); done)); omega; omega)))
        apply Par.eff _ [false, true, false] [false, false, true] [false, false, false]
        · exact rfl
        · exact rfl
        · decide +kernel
        · intro R
          refine ⟨_, _, _, (by repeat constructor), (by repeat constructor), (by repeat constructor), ?_⟩
          (apply EffW.stFd x; exact rfl; exact rfl; exact SzC.eq; exact hxo; (rw [k1]; omega); (rw [k1]; exact w6))
        exact Par.nil
      · repeat (first | exact AllN.nil | (apply AllN.cons; (intro c x; (repeat (first | exact IndA.nil | (apply IndA.skip; decide +kernel) | apply IndA.same))))) 
      · repeat (first | exact AllN.nil | (apply AllN.cons; (intro c x; (repeat (first | exact IndT.nil | (apply IndT.skip; decide +kernel) | apply IndT.same))))) 
      · exact fun _ => rfl
      intro c
      refine ⟨_, (by repeat constructor), ?_⟩
      apply WE.writ
      · (focus ((repeat (first | exact Writ.nil | apply Writ.some | apply Writ.none)); done))
      have e3 : (p ++ t) ++ x :: ([] ++ y :: (s2 ++ (r ++ q))) = p ++ (t ++ (x :: ((y :: s2) ++ (r ++ q)))) := by simp [List.append_assoc]
      rw [e3]
      repeat first
        | (apply WL.q; exact rfl; exact rfl; exact rfl; (first | (apply EvW.move; exact rfl) | (apply EvW.assign; exact rfl) | (apply EvW.arN; exact rfl; exact rfl; exact rfl; refine i64_in ?_ ?_ <;> omega)))
        | refine WC.region ?_ | refine WL.nil ?_ | refine WE.next ?_ | refine WE.out ?_
      rw [show ((p.length + (t ++ [y]).length : Nat) : Int) - 1 = ((p.length + t.length : Nat) : Int) by omega]
      exact WE.again (s := (t ++ [y], s2)) ((t, y :: s2)) ⟨by simp only []; rw [← hs12]; simp [List.append_assoc], fun z hz => (List.mem_cons.1 hz).elim (fun e => by rw [e]; exact hle) (hgt z)⟩ (by (focus ((repeat (first | exact trivial | (refine ⟨rfl, ?_⟩))); done))) (fun _ h => (by (try simp only []); exact h.keep (by repeat constructor))) (by (try simp only []); omega)
end Go.Proofs.Ytknclcjmfgdphaa
namespace Go.Proofs.Ytknclcjmfgdphaa
open Go.RowKit Go.BK
theorem kle_refl (x : Fd) : kle x x := .inr ⟨rfl, Int.le_refl _⟩
theorem sorted_at {l : List Fd} (h : l.Pairwise kle) {i j : Nat} (hij : i ≤ j) (hj : j < l.length) : kle (l.getD i default) (l.getD j default) := by
  rw [List.getD_eq_getElem?_getD, List.getD_eq_getElem?_getD, List.getElem?_eq_getElem (show i < l.length by omega), List.getElem?_eq_getElem hj]
  by_cases e : i = j
  · subst e; exact kle_refl _
  · exact List.pairwise_iff_getElem.1 h i j (by omega) hj (by omega)
theorem mem_take_at {l : List Fd} {i : Nat} {a : Fd} (h : a ∈ l.take i) : ∃ k, k < i ∧ k < l.length ∧ a = l.getD k default := by
  obtain ⟨k, hk, e⟩ := List.getElem_of_mem h
  rw [List.length_take] at hk
  refine ⟨k, by omega, by omega, ?_⟩
  rw [← e, List.getElem_take, List.getD_eq_getElem?_getD, List.getElem?_eq_getElem (show k < l.length by omega)]; rfl
theorem mem_drop_at {l : List Fd} {i : Nat} {a : Fd} (h : a ∈ l.drop i) : ∃ k, i ≤ k ∧ k < l.length ∧ a = l.getD k default := by
  obtain ⟨k, hk, e⟩ := List.getElem_of_mem h
  rw [List.length_drop] at hk
  refine ⟨i + k, by omega, by omega, ?_⟩
  rw [← e, List.getElem_drop, List.getD_eq_getElem?_getD, List.getElem?_eq_getElem (show i + k < l.length by omega)]; rfl
theorem cross {l r : List Fd} (hl : l.Pairwise kle) (hr : r.Pairwise kle) {i j : Nat} (h : i = 0 ∨ r.length ≤ j ∨ (i ≤ l.length ∧ kle (l.getD (i - 1) default) (r.getD j default))) : ∀ a ∈ l.take i, ∀ b ∈ r.drop j, kle a b := fun a ha b hb => by
  obtain ⟨k, hk1, hk2, rfl⟩ := mem_take_at ha
  obtain ⟨k', hk1', hk2', rfl⟩ := mem_drop_at hb
  rcases h with h | h | ⟨h1, h2⟩
  · omega
  · omega
  · exact kle_trans (sorted_at hl (show k ≤ i - 1 by omega) (by omega)) (kle_trans h2 (sorted_at hr hk1' hk2'))
/-- One is put among those that are sorted. -/
theorem sorted_among {r : List Fd} {x : Fd} (hr : r.Pairwise kle) {k : Nat} (hk : k ≤ r.length) (h1 : k = 0 ∨ kle (r.getD (k - 1) default) x) (h2 : k = r.length ∨ kle x (r.getD k default)) : (r.take k ++ x :: r.drop k).Pairwise kle := by
  refine sorted_put (by rw [List.take_append_drop]; exact hr) (fun y hy => ?_) (fun y hy => ?_)
  · obtain ⟨j, hj1, hj2, rfl⟩ := mem_take_at hy
    rcases h1 with h1 | h1
    · omega
    · exact kle_trans (sorted_at hr (show j ≤ k - 1 by omega) (by omega)) h1
  · obtain ⟨j, hj1, hj2, rfl⟩ := mem_drop_at hy
    rcases h2 with h2 | h2
    · omega
    · exact kle_trans h2 (sorted_at hr hj1 hj2)
theorem halve (x : Int) (h0 : 0 ≤ x) (h1 : x ≤ 4611686018427387904) : IntKind.i64.wrap (x.fdiv (2 ^ min (Int.toNat 1) IntKind.u64.bits)) = x / 2 := by
  rw [Int.fdiv_eq_ediv_of_nonneg _ (by decide)]
  exact wrap_in IntKind.i64 (i64_in (by show _ ≤ x / 2; omega) (by show x / 2 ≤ _; omega))
theorem get_two (p : List Fd) (x : Fd) (r q : List Fd) (k : Nat) (h : k < r.length) : (p ++ (x :: (r ++ q))).getD (p.length + 1 + k) default = r.getD k default := by
  rw [List.getD_eq_getElem?_getD, List.getD_eq_getElem?_getD, List.getElem?_append_right (by omega), show p.length + 1 + k - p.length = k + 1 by omega, List.getElem?_cons_succ, List.getElem?_append_left h]
theorem symMerge_one (v : Value) (p : List Fd) (x : Fd) (r q : List Fd) (a m b : Int) (w : World) (S : BSet) (hS : (sepL [.own 70 6 (v) (p ++ (x :: (r ++ q))).length ((p ++ (x :: (r ++ q))).flatMap fdC)]).sat S w) (h1 : OneV (p ++ (x :: (r ++ q)))) (hn : (p ++ (x :: (r ++ q))).length ≤ 1048576) (hr : r.Pairwise kle) (ha : a = p.length) (hm : m = p.length + 1) (hb : b = p.length + 1 + r.length) :
    Tri Try.prog 79 #[v, i64 a, i64 m, i64 b, .func (.func 34) #[] #[]] w S fun u A => u = .tuple #[] ∧ ∃ m', A = [.own 70 6 (v) (p ++ (m' ++ q)).length ((p ++ (m' ++ q)).flatMap fdC)] ∧ m'.Perm (x :: r) ∧ m'.Pairwise kle := by
  refine Tri.enter (l := [v, i64 a, i64 m, i64 b, .func (.func 34) #[] #[]]) Try.func79 rfl Try.ntmps79 rfl [(0, v), (1, i64 a), (2, i64 m), (3, i64 b), (4, .func (.func 34) #[] #[])] (subA rfl) hS ?_
  have hln := hn
  simp only [List.length_append, List.length_cons] at hn
  have hxo : x.v.oneCell' = true := h1 x (by simp)
  repeat first
    | (apply WL.q; exact rfl; exact rfl; exact rfl; (first | (apply EvW.move; exact rfl) | (apply EvW.assign; exact rfl) | (apply EvW.cmpT; exact rfl; exact rfl; exact rfl; omega) | (apply EvW.arN; exact rfl; exact rfl; exact rfl; (first | (refine i64_in ?_ ?_ <;> omega) | (constructor <;> simp only [IntKind.min, IntKind.max, IntKind.signed, IntKind.bits, ↓reduceIte, Bool.false_eq_true] <;> omega)))))
    | refine WC.seq ?_ | refine WC.region ?_ | refine WL.nil ?_ | refine WE.next ?_ | refine WC.block ?_ | refine WC.condT rfl ?_
  rw [show m = (p.length : Int) + 1 + (0 : Nat) by omega, hb]
  refine WC.loopK (σ := Nat × Nat) [0, 1, 4] (fun s => [(10, i64 ((p.length : Int) + 1 + s.1)), (11, i64 ((p.length : Int) + 1 + s.2))]) (fun s => [.own 70 6 (v) (p ++ (x :: (r ++ q))).length ((p ++ (x :: (r ++ q))).flatMap fdC)]) (fun s => s.1 ≤ s.2 ∧ s.2 ≤ r.length ∧ (s.1 = 0 ∨ kle (r.getD (s.1 - 1) default) x) ∧ (s.2 = r.length ∨ kle x (r.getD s.2 default))) (fun s => s.2 - s.1) (0, r.length) (by (focus ((repeat (first | exact Pick.nil | (apply Pick.cons; exact rfl))); done))) (by (focus ((repeat (first | exact trivial | (refine ⟨rfl, ?_⟩))); done))) (fun _ h => h.keep (by repeat constructor)) ⟨Nat.zero_le _, Nat.le_refl _, .inl rfl, .inl rfl⟩ (fun s hs => ?_)
  obtain ⟨lo, hi⟩ := s
  simp only [List.cons_append, List.nil_append] at hs ⊢
  obtain ⟨h01, h02, hlo, hhi⟩ := hs
  by_cases hlt : lo < hi
  · have hlt' : (p.length : Int) + 1 + lo < (p.length : Int) + 1 + hi := by omega
    repeat first
      | (apply WL.q; exact rfl; exact rfl; exact rfl; (first | (apply EvW.move; exact rfl) | (apply EvW.assign; exact rfl) | (apply EvW.cmpT; exact rfl; exact rfl; exact rfl; omega) | (apply EvW.arN; exact rfl; exact rfl; exact rfl; (first | (refine i64_in ?_ ?_ <;> omega) | (constructor <;> simp only [IntKind.min, IntKind.max, IntKind.signed, IntKind.bits, ↓reduceIte, Bool.false_eq_true] <;> omega))) | (apply EvW.convN; exact rfl; exact UndC.eq; exact UndC.eq; (first | (refine i64_in ?_ ?_ <;> omega) | (constructor <;> simp only [IntKind.min, IntKind.max, IntKind.signed, IntKind.bits, ↓reduceIte, Bool.false_eq_true] <;> omega))) | (apply EvW.conv; exact rfl; exact UndC.eq; exact UndC.eq) | (apply EvW.shr; exact rfl; exact rfl; omega)))
      | refine WC.seq ?_ | refine WC.region ?_ | refine WL.nil ?_ | refine WE.next ?_ | refine WC.block ?_ | refine WC.skip ?_ | refine WC.condT rfl ?_
    rw [halve _ (by omega) (by omega), show ((p.length : Int) + 1 + lo + ((p.length : Int) + 1 + hi)) / 2 = (p.length : Int) + 1 + ((lo + hi) / 2 : Nat) by omega]
    obtain ⟨mi, hh⟩ : ∃ mi : Nat, (lo + hi) / 2 = mi := ⟨_, rfl⟩
    rw [hh]
    have hh1 : lo ≤ mi ∧ mi < hi := by omega
    clear hh
    have hw := get_two p x r q mi (by omega)
    have hwx : (p ++ (x :: (r ++ q))).getD p.length default = x := getD_mid _ _ _ _
    have hro : (r.getD mi default).v.oneCell' = true := h1 _ (by
      rw [List.getD_eq_getElem?_getD, List.getElem?_eq_getElem (show mi < r.length by omega)]
      simp)
    have kx : a.toNat = p.length := by omega
    have kh : ((p.length : Int) + 1 + (mi : Nat)).toNat = p.length + 1 + mi := by omega
    have hLn : (p ++ (x :: (r ++ q))).length = p.length + 1 + r.length + q.length := by simp only [List.length_append, List.length_cons]; omega
    by_cases hc : kle x (r.getD mi default)
    · have hcv : ¬ cmpV (r.getD mi default) x < 0 := fun hh => (cmpV_lt _ _).1 hh hc
      repeat refine WC.seq ?_
      apply WC.drawE ([[.own 70 6 (v) (p ++ (x :: (r ++ q))).length ((p ++ (x :: (r ++ q))).flatMap fdC)]]) ([]) Try.mixed
      · (focus ((repeat (first | exact Restr.nil | (apply Restr.keep; exact rfl; exact rfl) | (apply Restr.drop; exact rfl))); done))
      · exact rfl
      · exact rfl
      · decide +kernel
      · decide +kernel
      · decide +kernel
      · decide +kernel
      · repeat first
            | exact Draws.nil
            | (apply Draws.skip; exact rfl; exact rfl)
            | (apply Draws.at 0; exact rfl; decide +kernel
               (first | (apply EvW.move; exact rfl) | (apply EvW.idxOwn; exact rfl; exact rfl; exact UndC.eq; exact SzC.eq; (focus ((repeat constructor); done)); omega; omega)))
            | (apply Draws.at 1; exact rfl; decide +kernel
               fail)
            | (apply Draws.two 0; exact rfl; decide +kernel
               fail
               fail)
            | (apply Draws.at 2; exact rfl; decide +kernel
               fail)
            | (apply Draws.two 1; exact rfl; decide +kernel
               fail
               fail)
        (apply Draws.at 0; exact rfl; decide +kernel; (apply EvW.ldFd (r.getD mi default); exact rfl; exact AggC.eq; exact SzC.eq; exact .head; (rw [kh]; omega); (rw [kh]; exact hw)))
        repeat first
            | exact Draws.nil
            | (apply Draws.skip; exact rfl; exact rfl)
            | (apply Draws.at 0; exact rfl; decide +kernel
               (first | (apply EvW.move; exact rfl) | (apply EvW.idxOwn; exact rfl; exact rfl; exact UndC.eq; exact SzC.eq; (focus ((repeat constructor); done)); omega; omega)))
            | (apply Draws.at 1; exact rfl; decide +kernel
               fail)
            | (apply Draws.two 0; exact rfl; decide +kernel
               fail
               fail)
            | (apply Draws.at 2; exact rfl; decide +kernel
               fail)
            | (apply Draws.two 1; exact rfl; decide +kernel
               fail
               fail)
        (apply Draws.at 0; exact rfl; decide +kernel; (apply EvW.ldFd x; exact rfl; exact AggC.eq; exact SzC.eq; exact .head; (rw [kx]; omega); (rw [kx]; exact hwx)))
        repeat first
            | exact Draws.nil
            | (apply Draws.skip; exact rfl; exact rfl)
            | (apply Draws.at 0; exact rfl; decide +kernel
               fail)
            | (apply Draws.at 1; exact rfl; decide +kernel
               fail)
            | (apply Draws.two 0; exact rfl; decide +kernel
               fail
               fail)
            | (apply Draws.at 2; exact rfl; decide +kernel
               fail)
            | (apply Draws.two 1; exact rfl; decide +kernel
               fail
               fail)
        (apply Draws.at 0; exact rfl; decide +kernel; (apply EvW.callVQ (caps := []); exact rfl; exact rfl; exact fun w1 S1 hS1 _ _ => cmp_spec (r.getD mi default) x w1 S1 hS1 hro hxo; exact fun w => Try.call34 _ w; exact fun _ _ h => h))
        repeat first
            | exact Draws.nil
            | (apply Draws.skip; exact rfl; exact rfl)
            | (apply Draws.at 0; exact rfl; decide +kernel
               (first | (apply EvW.cmpF; exact rfl; exact rfl; exact rfl; omega)))
            | (apply Draws.at 1; exact rfl; decide +kernel
               fail)
            | (apply Draws.two 0; exact rfl; decide +kernel
               fail
               fail)
            | (apply Draws.at 2; exact rfl; decide +kernel
               fail)
            | (apply Draws.two 1; exact rfl; decide +kernel
               fail
               fail)
      apply WE.writ
      · (focus ((repeat (first | exact Writ.nil | apply Writ.some | apply Writ.none)); done))
      repeat first
        | (apply WL.q; exact rfl; exact rfl; exact rfl; (first | (apply EvW.move; exact rfl) | (apply EvW.assign; exact rfl)))
        | refine WC.region ?_ | refine WL.nil ?_ | refine WE.next ?_ | refine WE.out ?_ | refine WC.condF rfl ?_
      exact WE.again (s := (lo, hi)) ((lo, mi)) ⟨hh1.1, by simp only []; omega, hlo, .inr hc⟩ (by (focus ((repeat (first | exact trivial | (refine ⟨rfl, ?_⟩))); done))) (fun _ h => (by (try simp only []); exact h.keep (by repeat constructor))) (by (try simp only []); omega)
    · have hcv : cmpV (r.getD mi default) x < 0 := (cmpV_lt _ _).2 hc
      repeat refine WC.seq ?_
      apply WC.drawE ([[.own 70 6 (v) (p ++ (x :: (r ++ q))).length ((p ++ (x :: (r ++ q))).flatMap fdC)]]) ([]) Try.mixed
      · (focus ((repeat (first | exact Restr.nil | (apply Restr.keep; exact rfl; exact rfl) | (apply Restr.drop; exact rfl))); done))
      · exact rfl
      · exact rfl
      · decide +kernel
      · decide +kernel
      · decide +kernel
      · decide +kernel
      · repeat first
            | exact Draws.nil
            | (apply Draws.skip; exact rfl; exact rfl)
            | (apply Draws.at 0; exact rfl; decide +kernel
               (first | (apply EvW.move; exact rfl) | (apply EvW.idxOwn; exact rfl; exact rfl; exact UndC.eq; exact SzC.eq; (focus ((repeat constructor); done)); omega; omega)))
            | (apply Draws.at 1; exact rfl; decide +kernel
               fail)
            | (apply Draws.two 0; exact rfl; decide +kernel
               fail
               fail)
            | (apply Draws.at 2; exact rfl; decide +kernel
               fail)
            | (apply Draws.two 1; exact rfl; decide +kernel
               fail
               fail)
        (apply Draws.at 0; exact rfl; decide +kernel; (apply EvW.ldFd (r.getD mi default); exact rfl; exact AggC.eq; exact SzC.eq; exact .head; (rw [kh]; omega); (rw [kh]; exact hw)))
        repeat first
            | exact Draws.nil
            | (apply Draws.skip; exact rfl; exact rfl)
            | (apply Draws.at 0; exact rfl; decide +kernel
               (first | (apply EvW.move; exact rfl) | (apply EvW.idxOwn; exact rfl; exact rfl; exact UndC.eq; exact SzC.eq; (focus ((repeat constructor); done)); omega; omega)))
            | (apply Draws.at 1; exact rfl; decide +kernel
               fail)
            | (apply Draws.two 0; exact rfl; decide +kernel
               fail
               fail)
            | (apply Draws.at 2; exact rfl; decide +kernel
               fail)
            | (apply Draws.two 1; exact rfl; decide +kernel
               fail
               fail)
        (apply Draws.at 0; exact rfl; decide +kernel; (apply EvW.ldFd x; exact rfl; exact AggC.eq; exact SzC.eq; exact .head; (rw [kx]; omega); (rw [kx]; exact hwx)))
        repeat first
            | exact Draws.nil
            | (apply Draws.skip; exact rfl; exact rfl)
            | (apply Draws.at 0; exact rfl; decide +kernel
               fail)
            | (apply Draws.at 1; exact rfl; decide +kernel
               fail)
            | (apply Draws.two 0; exact rfl; decide +kernel
               fail
               fail)
            | (apply Draws.at 2; exact rfl; decide +kernel
               fail)
            | (apply Draws.two 1; exact rfl; decide +kernel
               fail
               fail)
        (apply Draws.at 0; exact rfl; decide +kernel; (apply EvW.callVQ (caps := []); exact rfl; exact rfl; exact fun w1 S1 hS1 _ _ => cmp_spec (r.getD mi default) x w1 S1 hS1 hro hxo; exact fun w => Try.call34 _ w; exact fun _ _ h => h))
        repeat first
            | exact Draws.nil
            | (apply Draws.skip; exact rfl; exact rfl)
            | (apply Draws.at 0; exact rfl; decide +kernel
               (first | (apply EvW.cmpT; exact rfl; exact rfl; exact rfl; omega)))
            | (apply Draws.at 1; exact rfl; decide +kernel
               fail)
            | (apply Draws.two 0; exact rfl; decide +kernel
               fail
               fail)
            | (apply Draws.at 2; exact rfl; decide +kernel
               fail)
            | (apply Draws.two 1; exact rfl; decide +kernel
               fail
               fail)
      apply WE.writ
      · (focus ((repeat (first | exact Writ.nil | apply Writ.some | apply Writ.none)); done))
      repeat first
        | (apply WL.q; exact rfl; exact rfl; exact rfl; (first | (apply EvW.move; exact rfl) | (apply EvW.assign; exact rfl) | (apply EvW.arN; exact rfl; exact rfl; exact rfl; (first | (refine i64_in ?_ ?_ <;> omega) | (constructor <;> simp only [IntKind.min, IntKind.max, IntKind.signed, IntKind.bits, ↓reduceIte, Bool.false_eq_true] <;> omega)))))
        | refine WC.region ?_ | refine WL.nil ?_ | refine WE.next ?_ | refine WE.out ?_ | refine WC.condT rfl ?_
      rw [show (p.length : Int) + 1 + (mi : Nat) + 1 = (p.length : Int) + 1 + ((mi + 1 : Nat) : Int) by omega]
      exact WE.again (s := (lo, hi)) ((mi + 1, hi)) ⟨by simp only []; omega, h02, .inr (kle_not hc), hhi⟩ (by (focus ((repeat (first | exact trivial | (refine ⟨rfl, ?_⟩))); done))) (fun _ h => (by (try simp only []); exact h.keep (by repeat constructor))) (by (try simp only []); omega)
  have hle : lo = hi := by omega
  subst hle
  repeat first
    | (apply WL.q; exact rfl; exact rfl; exact rfl; (first | (apply EvW.move; exact rfl) | (apply EvW.assign; exact rfl) | (apply EvW.cmpF; exact rfl; exact rfl; exact rfl; omega)))
    | refine WC.seq ?_ | refine WC.region ?_ | refine WL.nil ?_ | refine WE.next ?_ | refine WC.block ?_ | refine WC.exit ?_ | refine WE.pass ?_ | refine WE.hit ?_ | refine WC.condF rfl ?_
  rw [show p ++ (x :: (r ++ q)) = p ++ (r.take 0 ++ (x :: (r.drop 0 ++ q))) from rfl, show a = (p.length : Int) + (0 : Nat) by omega]
  refine WC.loopK (σ := Nat) [0, 10] (fun s => [(13, i64 ((p.length : Int) + s))]) (fun s => [.own 70 6 (v) (p ++ (r.take s ++ (x :: (r.drop s ++ q)))).length ((p ++ (r.take s ++ (x :: (r.drop s ++ q)))).flatMap fdC)]) (fun s => s ≤ lo) (fun s => lo - s) 0 (by (focus ((repeat (first | exact Pick.nil | (apply Pick.cons; exact rfl))); done))) (by (focus ((repeat (first | exact trivial | (refine ⟨rfl, ?_⟩))); done))) (fun _ h => h.keep (by repeat constructor)) (Nat.zero_le _) (fun s hs => ?_)
  obtain ⟨t, rfl⟩ : ∃ q, q = s := ⟨s, rfl⟩
  simp only [List.cons_append, List.nil_append] at hs ⊢
  by_cases hlt : t < lo
  · have hlt' : (p.length : Int) + t < (p.length : Int) + 1 + lo - 1 := by omega
    have htr : t < r.length := by omega
    have hro : (r.getD t default).v.oneCell' = true := h1 _ (by
      rw [List.getD_eq_getElem?_getD, List.getElem?_eq_getElem htr]
      simp)
    rw [cut_at r t htr]
    have e1 : p ++ (r.take t ++ (x :: (r.getD t default :: r.drop (t + 1) ++ q))) = (p ++ r.take t) ++ x :: ([] ++ r.getD t default :: (r.drop (t + 1) ++ q)) := by simp [List.append_assoc]
    have e2 : (p ++ r.take t) ++ r.getD t default :: ([] ++ x :: (r.drop (t + 1) ++ q)) = p ++ (r.take (t + 1) ++ (x :: (r.drop (t + 1) ++ q))) := by rw [take_at' r t htr]; simp [List.append_assoc]
    have hPl : (p ++ r.take t).length = p.length + t := by rw [List.length_append, List.length_take]; omega
    have hdl : (r.drop (t + 1)).length = r.length - (t + 1) := List.length_drop
    rw [e1]
    generalize r.getD t default = y at e2 hro
    obtain ⟨w1', w2, w3, w4, _, _, _⟩ := swp_two (p ++ r.take t) x y [] (r.drop (t + 1) ++ q)
    have hL : ∀ c d : Fd, ((p ++ r.take t) ++ c :: ([] ++ d :: (r.drop (t + 1) ++ q))).length = (p ++ r.take t).length + 2 + (r.drop (t + 1)).length + q.length := fun c d => by simp only [List.length_append, List.length_cons, List.length_nil]; omega
    have hL1 := hL x y
    have hL2 := hL y y
    have hL3 := hL y x
    simp only [List.length_nil, Nat.add_zero] at w2 w4
    generalize p ++ r.take t = P at hPl w1' w2 w3 w4 hL1 hL2 hL3 e2
    have k1 : ((p.length : Int) + t).toNat = P.length := by omega
    have k2 : ((p.length : Int) + t + 1).toNat = P.length + 1 := by omega
    repeat first
      | (apply WL.q; exact rfl; exact rfl; exact rfl; (first | (apply EvW.move; exact rfl) | (apply EvW.cmpT; exact rfl; exact rfl; exact rfl; omega) | (apply EvW.arN; exact rfl; exact rfl; exact rfl; (first | (refine i64_in ?_ ?_ <;> omega) | (constructor <;> simp only [IntKind.min, IntKind.max, IntKind.signed, IntKind.bits, ↓reduceIte, Bool.false_eq_true] <;> omega)))))
      | refine WC.seq ?_ | refine WC.region ?_ | refine WL.nil ?_ | refine WE.next ?_ | refine WC.block ?_ | refine WC.skip ?_ | refine WC.condT rfl ?_
    repeat refine WC.seq ?_
    refine WC.keep (xs := [.own 70 6 (v) ((P ++ x :: ([] ++ y :: (r.drop (t + 1) ++ q)))).length (((P ++ x :: ([] ++ y :: (r.drop (t + 1) ++ q)))).flatMap fdC)]) (by repeat constructor) ?_
    apply WC.par _ (fun c : Ch => [.own 70 6 (v) ((P ++ x :: ([] ++ y :: (r.drop (t + 1) ++ q)))).length (((P ++ x :: ([] ++ y :: (r.drop (t + 1) ++ q)))).flatMap fdC), .own 70 6 (v) ((P ++ y :: ([] ++ y :: (r.drop (t + 1) ++ q)))).length (((P ++ y :: ([] ++ y :: (r.drop (t + 1) ++ q)))).flatMap fdC), .own 70 6 (v) ((P ++ y :: ([] ++ x :: (r.drop (t + 1) ++ q)))).length (((P ++ y :: ([] ++ x :: (r.drop (t + 1) ++ q)))).flatMap fdC)]) [none, some 15, some 17] [some 15, some 17, none] [] Try.mixed
    · (focus ((repeat (first | exact Restr.nil | (apply Restr.keep; exact rfl; exact rfl) | (apply Restr.drop; exact rfl))); done))
    · intro c; exact (by repeat constructor)
    · exact rfl
    · decide +kernel
    · decide +kernel
    · intro c
      (apply Par.quiet _ [true, false, false]; exact rfl; decide +kernel; exact rfl; intro R; refine ⟨_, (by repeat constructor), ?_⟩;
           (first | (apply EvW.move; exact rfl)))
      (apply Par.quiet _ [true, false, false]; exact rfl; decide +kernel; exact rfl; intro R; refine ⟨_, (by repeat constructor), ?_⟩;
           (first | (apply EvW.move; exact rfl)))
      (apply Par.quiet _ [false, false, false]; exact rfl; decide +kernel; exact rfl; intro R; refine ⟨_, (by repeat constructor), ?_⟩;
           (first | (apply EvW.move; exact rfl)))
      (apply Par.quiet _ [false, false, false]; exact rfl; decide +kernel; exact rfl; intro R; refine ⟨_, (by repeat constructor), ?_⟩;
           (first | (apply EvW.move; exact rfl)))
      (apply Par.quiet _ [false, false, false]; exact rfl; decide +kernel; exact rfl; intro R; refine ⟨_, (by repeat constructor), ?_⟩;
           (first | (apply EvW.arN; exact rfl; exact rfl; exact rfl; (first | (refine i64_in ?_ ?_ <;> omega) | (constructor <;> simp only [IntKind.min, IntKind.max, IntKind.signed, IntKind.bits, ↓reduceIte, Bool.false_eq_true] <;> omega)))))
      (apply Par.quiet _ [true, false, false]; exact rfl; decide +kernel; exact rfl; intro R; refine ⟨_, (by repeat constructor), ?_⟩;
           (first | (apply EvW.move; exact rfl)))
      (apply Par.quiet _ [true, false, false]; exact rfl; decide +kernel; exact rfl; intro R; refine ⟨_, (by repeat constructor), ?_⟩;
           (first | (apply EvW.move; exact rfl)))
      (apply Par.quiet _ [true, false, false]; exact rfl; decide +kernel; exact rfl; intro R; refine ⟨_, (by repeat constructor), ?_⟩;
           (first | (apply EvW.arN; exact rfl; exact rfl; exact rfl; (first | (refine i64_in ?_ ?_ <;> omega) | (constructor <;> simp only [IntKind.min, IntKind.max, IntKind.signed, IntKind.bits, ↓reduceIte, Bool.false_eq_true] <;> omega)))))
      (apply Par.quiet _ [true, false, false]; exact rfl; decide +kernel; exact rfl; intro R; refine ⟨_, (by repeat constructor), ?_⟩;
           (first | (apply EvW.idxOwn; exact rfl; exact rfl; exact UndC.eq; exact SzC.eq; (focus ((repeat constructor); done)); omega; omega)))
      apply Par.quiet _ [true, false, false]
      · exact rfl
      · decide +kernel
      · exact rfl
      · intro R
        refine ⟨_, (by repeat constructor), ?_⟩
        (apply EvW.ldFd y; exact rfl; exact AggC.eq; exact SzC.eq; exact .head; (rw [k2]; omega); (rw [k2]; exact w2))
      (apply Par.quiet _ [true, false, false]; exact rfl; decide +kernel; exact rfl; intro R; refine ⟨_, (by repeat constructor), ?_⟩;
           (first | (apply EvW.move; exact rfl)))
      (apply Par.quiet _ [true, false, false]; exact rfl; decide +kernel; exact rfl; intro R; refine ⟨_, (by repeat constructor), ?_⟩;
           (first | (apply EvW.move; exact rfl)))
      (apply Par.quiet _ [true, false, false]; exact rfl; decide +kernel; exact rfl; intro R; refine ⟨_, (by repeat constructor), ?_⟩;
           (first | (apply EvW.idxOwn; exact rfl; exact rfl; exact UndC.eq; exact SzC.eq; (focus ((repeat constructor); done)); omega; omega)))
      apply Par.quiet _ [true, false, false]
      · exact rfl
      · decide +kernel
      · exact rfl
      · intro R
        refine ⟨_, (by repeat constructor), ?_⟩
        (apply EvW.ldFd x; exact rfl; exact AggC.eq; exact SzC.eq; exact .head; (rw [k1]; omega); (rw [k1]; exact w1'))
      (apply Par.quiet _ [true, false, false]; exact rfl; decide +kernel; exact rfl; intro R; refine ⟨_, (by repeat constructor), ?_⟩;
           (first | (apply EvW.idxOwn; exact rfl; exact rfl; exact UndC.eq; exact SzC.eq; (focus ((repeat constructor); done)); omega; omega)))
      apply Par.eff _ [true, false, false] [false, true, false] [false, false, false]
      · exact rfl
      · exact rfl
      · decide +kernel
      · intro R
        refine ⟨_, _, _, (by repeat constructor), (by repeat constructor), (by repeat constructor), ?_⟩
        (apply EffW.stFd y; exact rfl; exact rfl; exact SzC.eq; exact hro; (rw [k1]; omega); (rw [k1]; exact w3))
      (apply Par.quiet _ [false, true, false]; exact rfl; decide +kernel; exact rfl; intro R; refine ⟨_, (by repeat constructor), ?_⟩;
           (first | (apply EvW.idxOwn; exact rfl; exact rfl; exact UndC.eq; exact SzC.eq; (focus ((repeat constructor); done)); omega; omega)))
      apply Par.eff _ [false, true, false] [false, false, true] [false, false, false]
      · exact rfl
      · exact rfl
      · decide +kernel
      · intro R
        refine ⟨_, _, _, (by repeat constructor), (by repeat constructor), (by repeat constructor), ?_⟩
        (apply EffW.stFd x; exact rfl; exact rfl; exact SzC.eq; exact hxo; (rw [k2]; omega); (rw [k2]; exact w4))
      exact Par.nil
    · repeat (first | exact AllN.nil | (apply AllN.cons; (intro c x; (repeat (first | exact IndA.nil | (apply IndA.skip; decide +kernel) | apply IndA.same))))) 
    · repeat (first | exact AllN.nil | (apply AllN.cons; (intro c x; (repeat (first | exact IndT.nil | (apply IndT.skip; decide +kernel) | apply IndT.same))))) 
    · exact fun _ => rfl
    intro c
    refine ⟨_, (by repeat constructor), ?_⟩
    apply WE.writ
    · (focus ((repeat (first | exact Writ.nil | apply Writ.some | apply Writ.none)); done))
    rw [e2]
    repeat first
      | (apply WL.q; exact rfl; exact rfl; exact rfl; (first | (apply EvW.move; exact rfl) | (apply EvW.assign; exact rfl) | (apply EvW.arN; exact rfl; exact rfl; exact rfl; (first | (refine i64_in ?_ ?_ <;> omega) | (constructor <;> simp only [IntKind.min, IntKind.max, IntKind.signed, IntKind.bits, ↓reduceIte, Bool.false_eq_true] <;> omega)))))
      | refine WC.region ?_ | refine WL.nil ?_ | refine WE.next ?_ | refine WE.out ?_
    rw [show (p.length : Int) + t + 1 = (p.length : Int) + ((t + 1 : Nat) : Int) by omega]
    exact WE.again (s := t) (t + 1) (by omega) (by (focus ((repeat (first | exact trivial | (refine ⟨rfl, ?_⟩))); done))) (fun _ h => (by (try simp only []); exact h.keep (by repeat constructor))) (by (try simp only []); omega)
  have hle : t = lo := by omega
  subst hle
  have e3 : p ++ (r.take t ++ (x :: (r.drop t ++ q))) = p ++ ((r.take t ++ x :: r.drop t) ++ q) := by simp [List.append_assoc]
  rw [e3]
  have hpm : (r.take t ++ x :: r.drop t).Perm (x :: r) := by
    refine List.perm_middle.trans ?_
    rw [List.take_append_drop]
  have hst := sorted_among hr h02 hlo hhi
  repeat first
    | (apply WL.q; exact rfl; exact rfl; exact rfl; (first | (apply EvW.move; exact rfl) | (apply EvW.cmpF; exact rfl; exact rfl; exact rfl; omega) | (apply EvW.arN; exact rfl; exact rfl; exact rfl; (first | (refine i64_in ?_ ?_ <;> omega) | (constructor <;> simp only [IntKind.min, IntKind.max, IntKind.signed, IntKind.bits, ↓reduceIte, Bool.false_eq_true] <;> omega)))))
    | refine WC.seq ?_ | refine WC.region ?_ | refine WL.nil ?_ | refine WE.next ?_ | refine WC.exit ?_ | refine WE.pass ?_ | refine WE.hit ?_ | refine WC.condF rfl ?_ | refine WC.ret ?_ | refine WE.passRet ?_
  refine WE.keep (xs := [.own 70 6 (v) (p ++ ((r.take t ++ x :: r.drop t) ++ q)).length ((p ++ ((r.take t ++ x :: r.drop t) ++ q)).flatMap fdC)]) (by repeat constructor) ?_
  first | refine WE.end0 rfl ?_ | refine WE.ret0 rfl ?_
  exact ⟨rfl, _, rfl, hpm, hst⟩
end Go.Proofs.Ytknclcjmfgdphaa
namespace Go.Proofs.Ytknclcjmfgdphaa
open Go.RowKit Go.BK
theorem get_in (p l s : List Fd) (k : Nat) (h : k < l.length) : (p ++ (l ++ s)).getD (p.length + k) default = l.getD k default := by
  rw [List.getD_eq_getElem?_getD, List.getD_eq_getElem?_getD, List.getElem?_append_right (by omega), Nat.add_sub_cancel_left, List.getElem?_append_left h]
theorem one_in {p l s : List Fd} (h : OneV (p ++ (l ++ s))) {k : Nat} (hk : k < l.length) : (l.getD k default).v.oneCell' = true := h _ (by
  rw [List.getD_eq_getElem?_getD, List.getElem?_eq_getElem hk]
  simp)
theorem symMerge_last (v : Value) (p l : List Fd) (x : Fd) (q : List Fd) (a m b : Int) (w : World) (S : BSet) (hS : (sepL [.own 70 6 (v) (p ++ (l ++ (x :: q))).length ((p ++ (l ++ (x :: q))).flatMap fdC)]).sat S w) (h1 : OneV (p ++ (l ++ (x :: q)))) (hn : (p ++ (l ++ (x :: q))).length ≤ 1048576) (hl : l.Pairwise kle) (hl1 : l.length ≠ 1) (ha : a = p.length) (hm : m = p.length + l.length) (hb : b = p.length + l.length + 1) :
    Tri Try.prog 79 #[v, i64 a, i64 m, i64 b, .func (.func 34) #[] #[]] w S fun u A => u = .tuple #[] ∧ ∃ m', A = [.own 70 6 (v) (p ++ (m' ++ q)).length ((p ++ (m' ++ q)).flatMap fdC)] ∧ m'.Perm (l ++ [x]) ∧ m'.Pairwise kle := by
  refine Tri.enter (l := [v, i64 a, i64 m, i64 b, .func (.func 34) #[] #[]]) Try.func79 rfl Try.ntmps79 rfl [(0, v), (1, i64 a), (2, i64 m), (3, i64 b), (4, .func (.func 34) #[] #[])] (subA rfl) hS ?_
  have hln := hn
  simp only [List.length_append, List.length_cons] at hn
  have hxo : x.v.oneCell' = true := h1 x (by simp)
  have hma : ¬ m - a = 1 := by omega
  have hbm : b - m = 1 := by omega
  repeat first
    | (apply WL.q; exact rfl; exact rfl; exact rfl; (first | (apply EvW.move; exact rfl) | (apply EvW.assign; exact rfl) | (apply EvW.cmpT; exact rfl; exact rfl; exact rfl; omega) | (apply EvW.cmpF; exact rfl; exact rfl; exact rfl; omega) | (apply EvW.arN; exact rfl; exact rfl; exact rfl; (first | (refine i64_in ?_ ?_ <;> omega) | (constructor <;> simp only [IntKind.min, IntKind.max, IntKind.signed, IntKind.bits, ↓reduceIte, Bool.false_eq_true] <;> omega)))))
    | refine WC.seq ?_ | refine WC.region ?_ | refine WL.nil ?_ | refine WE.next ?_ | refine WC.block ?_ | refine WC.skip ?_ | refine WC.condT rfl ?_ | refine WC.condF rfl ?_
  rw [show a = (p.length : Int) + (0 : Nat) by omega, hm]
  refine WC.loopK (σ := Nat × Nat) [0, 2, 4] (fun s => [(14, i64 ((p.length : Int) + s.1)), (15, i64 ((p.length : Int) + s.2))]) (fun s => [.own 70 6 (v) (p ++ (l ++ (x :: q))).length ((p ++ (l ++ (x :: q))).flatMap fdC)]) (fun s => s.1 ≤ s.2 ∧ s.2 ≤ l.length ∧ (s.1 = 0 ∨ kle (l.getD (s.1 - 1) default) x) ∧ (s.2 = l.length ∨ kle x (l.getD s.2 default))) (fun s => s.2 - s.1) (0, l.length) (by (focus ((repeat (first | exact Pick.nil | (apply Pick.cons; exact rfl))); done))) (by (focus ((repeat (first | exact trivial | (refine ⟨rfl, ?_⟩))); done))) (fun _ h => h.keep (by repeat constructor)) ⟨Nat.zero_le _, Nat.le_refl _, .inl rfl, .inl rfl⟩ (fun s hs => ?_)
  obtain ⟨lo, hi⟩ := s
  simp only [List.cons_append, List.nil_append] at hs ⊢
  obtain ⟨h01, h02, hlo, hhi⟩ := hs
  by_cases hlt : lo < hi
  · have hlt' : (p.length : Int) + lo < (p.length : Int) + hi := by omega
    repeat first
      | (apply WL.q; exact rfl; exact rfl; exact rfl; (first | (apply EvW.move; exact rfl) | (apply EvW.assign; exact rfl) | (apply EvW.cmpT; exact rfl; exact rfl; exact rfl; omega) | (apply EvW.arN; exact rfl; exact rfl; exact rfl; (first | (refine i64_in ?_ ?_ <;> omega) | (constructor <;> simp only [IntKind.min, IntKind.max, IntKind.signed, IntKind.bits, ↓reduceIte, Bool.false_eq_true] <;> omega))) | (apply EvW.convN; exact rfl; exact UndC.eq; exact UndC.eq; (first | (refine i64_in ?_ ?_ <;> omega) | (constructor <;> simp only [IntKind.min, IntKind.max, IntKind.signed, IntKind.bits, ↓reduceIte, Bool.false_eq_true] <;> omega))) | (apply EvW.conv; exact rfl; exact UndC.eq; exact UndC.eq) | (apply EvW.shr; exact rfl; exact rfl; omega)))
      | refine WC.seq ?_ | refine WC.region ?_ | refine WL.nil ?_ | refine WE.next ?_ | refine WC.block ?_ | refine WC.skip ?_ | refine WC.condT rfl ?_
    rw [halve _ (by omega) (by omega), show ((p.length : Int) + lo + ((p.length : Int) + hi)) / 2 = (p.length : Int) + ((lo + hi) / 2 : Nat) by omega]
    obtain ⟨mi, hh⟩ : ∃ mi : Nat, (lo + hi) / 2 = mi := ⟨_, rfl⟩
    rw [hh]
    have hh1 : lo ≤ mi ∧ mi < hi := by omega
    clear hh
    have hw := get_in p l (x :: q) mi (by omega)
    have hwx : (p ++ (l ++ (x :: q))).getD (p.length + l.length) default = x := by rw [← List.append_assoc, ← List.length_append]; exact getD_mid _ _ _ _
    have hro := one_in h1 (show mi < l.length by omega)
    have kx : ((p.length : Int) + l.length).toNat = p.length + l.length := by omega
    have kh : ((p.length : Int) + (mi : Nat)).toNat = p.length + mi := by omega
    have hLn : (p ++ (l ++ (x :: q))).length = p.length + l.length + 1 + q.length := by simp only [List.length_append, List.length_cons]; omega
    by_cases hc : kle (l.getD mi default) x
    · have hcv : ¬ cmpV x (l.getD mi default) < 0 := fun hh => (cmpV_lt _ _).1 hh hc
      repeat refine WC.seq ?_
      apply WC.drawE ([[.own 70 6 (v) (p ++ (l ++ (x :: q))).length ((p ++ (l ++ (x :: q))).flatMap fdC)]]) ([]) Try.mixed
      · (focus ((repeat (first | exact Restr.nil | (apply Restr.keep; exact rfl; exact rfl) | (apply Restr.drop; exact rfl))); done))
      · exact rfl
      · exact rfl
      · decide +kernel
      · decide +kernel
      · decide +kernel
      · decide +kernel
      · repeat first
            | exact Draws.nil
            | (apply Draws.skip; exact rfl; exact rfl)
            | (apply Draws.at 0; exact rfl; decide +kernel
               (first | (apply EvW.move; exact rfl) | (apply EvW.idxOwn; exact rfl; exact rfl; exact UndC.eq; exact SzC.eq; (focus ((repeat constructor); done)); omega; omega)))
            | (apply Draws.at 1; exact rfl; decide +kernel
               fail)
            | (apply Draws.two 0; exact rfl; decide +kernel
               fail
               fail)
            | (apply Draws.at 2; exact rfl; decide +kernel
               fail)
            | (apply Draws.two 1; exact rfl; decide +kernel
               fail
               fail)
        (apply Draws.at 0; exact rfl; decide +kernel; (apply EvW.ldFd x; exact rfl; exact AggC.eq; exact SzC.eq; exact .head; (rw [kx]; omega); (rw [kx]; exact hwx)))
        repeat first
            | exact Draws.nil
            | (apply Draws.skip; exact rfl; exact rfl)
            | (apply Draws.at 0; exact rfl; decide +kernel
               (first | (apply EvW.move; exact rfl) | (apply EvW.idxOwn; exact rfl; exact rfl; exact UndC.eq; exact SzC.eq; (focus ((repeat constructor); done)); omega; omega)))
            | (apply Draws.at 1; exact rfl; decide +kernel
               fail)
            | (apply Draws.two 0; exact rfl; decide +kernel
               fail
               fail)
            | (apply Draws.at 2; exact rfl; decide +kernel
               fail)
            | (apply Draws.two 1; exact rfl; decide +kernel
               fail
               fail)
        (apply Draws.at 0; exact rfl; decide +kernel; (apply EvW.ldFd (l.getD mi default); exact rfl; exact AggC.eq; exact SzC.eq; exact .head; (rw [kh]; omega); (rw [kh]; exact hw)))
        repeat first
            | exact Draws.nil
            | (apply Draws.skip; exact rfl; exact rfl)
            | (apply Draws.at 0; exact rfl; decide +kernel
               fail)
            | (apply Draws.at 1; exact rfl; decide +kernel
               fail)
            | (apply Draws.two 0; exact rfl; decide +kernel
               fail
               fail)
            | (apply Draws.at 2; exact rfl; decide +kernel
               fail)
            | (apply Draws.two 1; exact rfl; decide +kernel
               fail
               fail)
        (apply Draws.at 0; exact rfl; decide +kernel; (apply EvW.callVQ (caps := []); exact rfl; exact rfl; exact fun w1 S1 hS1 _ _ => cmp_spec x (l.getD mi default) w1 S1 hS1 hxo hro; exact fun w => Try.call34 _ w; exact fun _ _ h => h))
        repeat first
            | exact Draws.nil
            | (apply Draws.skip; exact rfl; exact rfl)
            | (apply Draws.at 0; exact rfl; decide +kernel
               (first | (apply EvW.cmpF; exact rfl; exact rfl; exact rfl; omega) | (apply EvW.notF; exact rfl)))
            | (apply Draws.at 1; exact rfl; decide +kernel
               fail)
            | (apply Draws.two 0; exact rfl; decide +kernel
               fail
               fail)
            | (apply Draws.at 2; exact rfl; decide +kernel
               fail)
            | (apply Draws.two 1; exact rfl; decide +kernel
               fail
               fail)
      apply WE.writ
      · (focus ((repeat (first | exact Writ.nil | apply Writ.some | apply Writ.none)); done))
      repeat first
        | (apply WL.q; exact rfl; exact rfl; exact rfl; (first | (apply EvW.move; exact rfl) | (apply EvW.assign; exact rfl) | (apply EvW.arN; exact rfl; exact rfl; exact rfl; (first | (refine i64_in ?_ ?_ <;> omega) | (constructor <;> simp only [IntKind.min, IntKind.max, IntKind.signed, IntKind.bits, ↓reduceIte, Bool.false_eq_true] <;> omega)))))
        | refine WC.region ?_ | refine WL.nil ?_ | refine WE.next ?_ | refine WE.out ?_ | refine WC.condT rfl ?_
      rw [show (p.length : Int) + (mi : Nat) + 1 = (p.length : Int) + ((mi + 1 : Nat) : Int) by omega]
      exact WE.again (s := (lo, hi)) ((mi + 1, hi)) ⟨by simp only []; omega, h02, .inr hc, hhi⟩ (by (focus ((repeat (first | exact trivial | (refine ⟨rfl, ?_⟩))); done))) (fun _ h => (by (try simp only []); exact h.keep (by repeat constructor))) (by (try simp only []); omega)
    · have hcv : cmpV x (l.getD mi default) < 0 := (cmpV_lt _ _).2 hc
      repeat refine WC.seq ?_
      apply WC.drawE ([[.own 70 6 (v) (p ++ (l ++ (x :: q))).length ((p ++ (l ++ (x :: q))).flatMap fdC)]]) ([]) Try.mixed
      · (focus ((repeat (first | exact Restr.nil | (apply Restr.keep; exact rfl; exact rfl) | (apply Restr.drop; exact rfl))); done))
      · exact rfl
      · exact rfl
      · decide +kernel
      · decide +kernel
      · decide +kernel
      · decide +kernel
      · repeat first
            | exact Draws.nil
            | (apply Draws.skip; exact rfl; exact rfl)
            | (apply Draws.at 0; exact rfl; decide +kernel
               (first | (apply EvW.move; exact rfl) | (apply EvW.idxOwn; exact rfl; exact rfl; exact UndC.eq; exact SzC.eq; (focus ((repeat constructor); done)); omega; omega)))
            | (apply Draws.at 1; exact rfl; decide +kernel
               fail)
            | (apply Draws.two 0; exact rfl; decide +kernel
               fail
               fail)
            | (apply Draws.at 2; exact rfl; decide +kernel
               fail)
            | (apply Draws.two 1; exact rfl; decide +kernel
               fail
               fail)
        (apply Draws.at 0; exact rfl; decide +kernel; (apply EvW.ldFd x; exact rfl; exact AggC.eq; exact SzC.eq; exact .head; (rw [kx]; omega); (rw [kx]; exact hwx)))
        repeat first
            | exact Draws.nil
            | (apply Draws.skip; exact rfl; exact rfl)
            | (apply Draws.at 0; exact rfl; decide +kernel
               (first | (apply EvW.move; exact rfl) | (apply EvW.idxOwn; exact rfl; exact rfl; exact UndC.eq; exact SzC.eq; (focus ((repeat constructor); done)); omega; omega)))
            | (apply Draws.at 1; exact rfl; decide +kernel
               fail)
            | (apply Draws.two 0; exact rfl; decide +kernel
               fail
               fail)
            | (apply Draws.at 2; exact rfl; decide +kernel
               fail)
            | (apply Draws.two 1; exact rfl; decide +kernel
               fail
               fail)
        (apply Draws.at 0; exact rfl; decide +kernel; (apply EvW.ldFd (l.getD mi default); exact rfl; exact AggC.eq; exact SzC.eq; exact .head; (rw [kh]; omega); (rw [kh]; exact hw)))
        repeat first
            | exact Draws.nil
            | (apply Draws.skip; exact rfl; exact rfl)
            | (apply Draws.at 0; exact rfl; decide +kernel
               fail)
            | (apply Draws.at 1; exact rfl; decide +kernel
               fail)
            | (apply Draws.two 0; exact rfl; decide +kernel
               fail
               fail)
            | (apply Draws.at 2; exact rfl; decide +kernel
               fail)
            | (apply Draws.two 1; exact rfl; decide +kernel
               fail
               fail)
        (apply Draws.at 0; exact rfl; decide +kernel; (apply EvW.callVQ (caps := []); exact rfl; exact rfl; exact fun w1 S1 hS1 _ _ => cmp_spec x (l.getD mi default) w1 S1 hS1 hxo hro; exact fun w => Try.call34 _ w; exact fun _ _ h => h))
        repeat first
            | exact Draws.nil
            | (apply Draws.skip; exact rfl; exact rfl)
            | (apply Draws.at 0; exact rfl; decide +kernel
               (first | (apply EvW.cmpT; exact rfl; exact rfl; exact rfl; omega) | (apply EvW.notT; exact rfl)))
            | (apply Draws.at 1; exact rfl; decide +kernel
               fail)
            | (apply Draws.two 0; exact rfl; decide +kernel
               fail
               fail)
            | (apply Draws.at 2; exact rfl; decide +kernel
               fail)
            | (apply Draws.two 1; exact rfl; decide +kernel
               fail
               fail)
      apply WE.writ
      · (focus ((repeat (first | exact Writ.nil | apply Writ.some | apply Writ.none)); done))
      repeat first
        | (apply WL.q; exact rfl; exact rfl; exact rfl; (first | (apply EvW.move; exact rfl) | (apply EvW.assign; exact rfl)))
        | refine WC.region ?_ | refine WL.nil ?_ | refine WE.next ?_ | refine WE.out ?_ | refine WC.condF rfl ?_
      exact WE.again (s := (lo, hi)) ((lo, mi)) ⟨hh1.1, by simp only []; omega, hlo, .inr (kle_not hc)⟩ (by (focus ((repeat (first | exact trivial | (refine ⟨rfl, ?_⟩))); done))) (fun _ h => (by (try simp only []); exact h.keep (by repeat constructor))) (by (try simp only []); omega)
  have hle : lo = hi := by omega
  subst hle
  repeat first
    | (apply WL.q; exact rfl; exact rfl; exact rfl; (first | (apply EvW.move; exact rfl) | (apply EvW.assign; exact rfl) | (apply EvW.cmpF; exact rfl; exact rfl; exact rfl; omega)))
    | refine WC.seq ?_ | refine WC.region ?_ | refine WL.nil ?_ | refine WE.next ?_ | refine WC.block ?_ | refine WC.exit ?_ | refine WE.pass ?_ | refine WE.hit ?_ | refine WC.condF rfl ?_
  have e0 : p ++ (l ++ (x :: q)) = p ++ (l.take l.length ++ (x :: (l.drop l.length ++ q))) := by rw [List.take_length, List.drop_length]; rfl
  rw [e0]
  refine WC.loopK (σ := Nat) [0, 14] (fun s => [(17, i64 ((p.length : Int) + s))]) (fun s => [.own 70 6 (v) (p ++ (l.take s ++ (x :: (l.drop s ++ q)))).length ((p ++ (l.take s ++ (x :: (l.drop s ++ q)))).flatMap fdC)]) (fun s => lo ≤ s ∧ s ≤ l.length) (fun s => s - lo) l.length (by (focus ((repeat (first | exact Pick.nil | (apply Pick.cons; exact rfl))); done))) (by (focus ((repeat (first | exact trivial | (refine ⟨rfl, ?_⟩))); done))) (fun _ h => h.keep (by repeat constructor)) ⟨h02, Nat.le_refl _⟩ (fun s hs => ?_)
  obtain ⟨t, rfl⟩ : ∃ q, q = s := ⟨s, rfl⟩
  simp only [List.cons_append, List.nil_append] at hs ⊢
  obtain ⟨ht1, ht2⟩ := hs
  by_cases hlt : lo < t
  · obtain ⟨t, rfl⟩ : ∃ t', t = t' + 1 := ⟨t - 1, by omega⟩
    have hlt' : (p.length : Int) + ((t + 1 : Nat) : Int) > (p.length : Int) + lo := by omega
    have htr : t < l.length := by omega
    have hro := one_in h1 htr
    rw [take_at' l t htr]
    have e1 : p ++ ((l.take t ++ [l.getD t default]) ++ (x :: (l.drop (t + 1) ++ q))) = (p ++ l.take t) ++ l.getD t default :: ([] ++ x :: (l.drop (t + 1) ++ q)) := by simp [List.append_assoc]
    have e2 : (p ++ l.take t) ++ x :: ([] ++ l.getD t default :: (l.drop (t + 1) ++ q)) = p ++ (l.take t ++ (x :: (l.drop t ++ q))) := by rw [cut_at l t htr]; simp [List.append_assoc]
    have hPl : (p ++ l.take t).length = p.length + t := by rw [List.length_append, List.length_take]; omega
    rw [e1]
    generalize l.getD t default = y at e2 hro
    obtain ⟨w1', w2, _, _, w5, w6, _⟩ := swp_two (p ++ l.take t) y x [] (l.drop (t + 1) ++ q)
    have hL : ∀ c d : Fd, ((p ++ l.take t) ++ c :: ([] ++ d :: (l.drop (t + 1) ++ q))).length = (p ++ l.take t).length + 2 + (l.drop (t + 1)).length + q.length := fun c d => by simp only [List.length_append, List.length_cons, List.length_nil]; omega
    have hL1 := hL y x
    have hL2 := hL y y
    have hL3 := hL x y
    simp only [List.length_nil, Nat.add_zero] at w2 w5
    generalize p ++ l.take t = P at hPl w1' w2 w5 w6 hL1 hL2 hL3 e2
    have k1 : ((p.length : Int) + ((t + 1 : Nat) : Int) - 1).toNat = P.length := by omega
    have k2 : ((p.length : Int) + ((t + 1 : Nat) : Int)).toNat = P.length + 1 := by omega
    repeat first
      | (apply WL.q; exact rfl; exact rfl; exact rfl; (first | (apply EvW.move; exact rfl) | (apply EvW.cmpT; exact rfl; exact rfl; exact rfl; omega)))
      | refine WC.seq ?_ | refine WC.region ?_ | refine WL.nil ?_ | refine WE.next ?_ | refine WC.block ?_ | refine WC.skip ?_ | refine WC.condT rfl ?_
    repeat refine WC.seq ?_
    refine WC.keep (xs := [.own 70 6 (v) ((P ++ y :: ([] ++ x :: (l.drop (t + 1) ++ q)))).length (((P ++ y :: ([] ++ x :: (l.drop (t + 1) ++ q)))).flatMap fdC)]) (by repeat constructor) ?_
    apply WC.par _ (fun c : Ch => [.own 70 6 (v) ((P ++ y :: ([] ++ x :: (l.drop (t + 1) ++ q)))).length (((P ++ y :: ([] ++ x :: (l.drop (t + 1) ++ q)))).flatMap fdC), .own 70 6 (v) ((P ++ y :: ([] ++ y :: (l.drop (t + 1) ++ q)))).length (((P ++ y :: ([] ++ y :: (l.drop (t + 1) ++ q)))).flatMap fdC), .own 70 6 (v) ((P ++ x :: ([] ++ y :: (l.drop (t + 1) ++ q)))).length (((P ++ x :: ([] ++ y :: (l.drop (t + 1) ++ q)))).flatMap fdC)]) [none, some 15, some 17] [some 15, some 17, none] [] Try.mixed
    · (focus ((repeat (first | exact Restr.nil | (apply Restr.keep; exact rfl; exact rfl) | (apply Restr.drop; exact rfl))); done))
    · intro c; exact (by repeat constructor)
    · exact rfl
    · decide +kernel
    · decide +kernel
    · intro c
      (apply Par.quiet _ [true, false, false]; exact rfl; decide +kernel; exact rfl; intro R; refine ⟨_, (by repeat constructor), ?_⟩;
           (first | (apply EvW.move; exact rfl)))
      (apply Par.quiet _ [true, false, false]; exact rfl; decide +kernel; exact rfl; intro R; refine ⟨_, (by repeat constructor), ?_⟩;
           (first | (apply EvW.move; exact rfl)))
      (apply Par.quiet _ [false, false, false]; exact rfl; decide +kernel; exact rfl; intro R; refine ⟨_, (by repeat constructor), ?_⟩;
           (first | (apply EvW.move; exact rfl)))
      (apply Par.quiet _ [false, false, false]; exact rfl; decide +kernel; exact rfl; intro R; refine ⟨_, (by repeat constructor), ?_⟩;
           (first | (apply EvW.move; exact rfl)))
      (apply Par.quiet _ [false, false, false]; exact rfl; decide +kernel; exact rfl; intro R; refine ⟨_, (by repeat constructor), ?_⟩;
           (first | (apply EvW.arN; exact rfl; exact rfl; exact rfl; (first | (refine i64_in ?_ ?_ <;> omega) | (constructor <;> simp only [IntKind.min, IntKind.max, IntKind.signed, IntKind.bits, ↓reduceIte, Bool.false_eq_true] <;> omega)))))
      (apply Par.quiet _ [true, false, false]; exact rfl; decide +kernel; exact rfl; intro R; refine ⟨_, (by repeat constructor), ?_⟩;
           (first | (apply EvW.move; exact rfl)))
      (apply Par.quiet _ [true, false, false]; exact rfl; decide +kernel; exact rfl; intro R; refine ⟨_, (by repeat constructor), ?_⟩;
           (first | (apply EvW.move; exact rfl)))
      (apply Par.quiet _ [true, false, false]; exact rfl; decide +kernel; exact rfl; intro R; refine ⟨_, (by repeat constructor), ?_⟩;
           (first | (apply EvW.arN; exact rfl; exact rfl; exact rfl; (first | (refine i64_in ?_ ?_ <;> omega) | (constructor <;> simp only [IntKind.min, IntKind.max, IntKind.signed, IntKind.bits, ↓reduceIte, Bool.false_eq_true] <;> omega)))))
      (apply Par.quiet _ [true, false, false]; exact rfl; decide +kernel; exact rfl; intro R; refine ⟨_, (by repeat constructor), ?_⟩;
           (first | (apply EvW.idxOwn; exact rfl; exact rfl; exact UndC.eq; exact SzC.eq; (focus ((repeat constructor); done)); omega; omega)))
      apply Par.quiet _ [true, false, false]
      · exact rfl
      · decide +kernel
      · exact rfl
      · intro R
        refine ⟨_, (by repeat constructor), ?_⟩
        (apply EvW.ldFd y; exact rfl; exact AggC.eq; exact SzC.eq; exact .head; (rw [k1]; omega); (rw [k1]; exact w1'))
      (apply Par.quiet _ [true, false, false]; exact rfl; decide +kernel; exact rfl; intro R; refine ⟨_, (by repeat constructor), ?_⟩;
           (first | (apply EvW.move; exact rfl)))
      (apply Par.quiet _ [true, false, false]; exact rfl; decide +kernel; exact rfl; intro R; refine ⟨_, (by repeat constructor), ?_⟩;
           (first | (apply EvW.move; exact rfl)))
      (apply Par.quiet _ [true, false, false]; exact rfl; decide +kernel; exact rfl; intro R; refine ⟨_, (by repeat constructor), ?_⟩;
           (first | (apply EvW.idxOwn; exact rfl; exact rfl; exact UndC.eq; exact SzC.eq; (focus ((repeat constructor); done)); omega; omega)))
      apply Par.quiet _ [true, false, false]
      · exact rfl
      · decide +kernel
      · exact rfl
      · intro R
        refine ⟨_, (by repeat constructor), ?_⟩
        (apply EvW.ldFd x; exact rfl; exact AggC.eq; exact SzC.eq; exact .head; (rw [k2]; omega); (rw [k2]; exact w2))
      (apply Par.quiet _ [true, false, false]; exact rfl; decide +kernel; exact rfl; intro R; refine ⟨_, (by repeat constructor), ?_⟩;
           (first | (apply EvW.idxOwn; exact rfl; exact rfl; exact UndC.eq; exact SzC.eq; (focus ((repeat constructor); done)); omega; omega)))
      apply Par.eff _ [true, false, false] [false, true, false] [false, false, false]
      · exact rfl
      · exact rfl
      · decide +kernel
      · intro R
        refine ⟨_, _, _, (by repeat constructor), (by repeat constructor), (by repeat constructor), ?_⟩
        (apply EffW.stFd y; exact rfl; exact rfl; exact SzC.eq; exact hro; (rw [k2]; omega); (rw [k2]; exact w5))
      (apply Par.quiet _ [false, true, false]; exact rfl; decide +kernel; exact rfl; intro R; refine ⟨_, (by repeat constructor), ?_⟩;
           (first | (apply EvW.idxOwn; exact rfl; exact rfl; exact UndC.eq; exact SzC.eq; (focus ((repeat constructor); done)); omega; omega)))
      apply Par.eff _ [false, true, false] [false, false, true] [false, false, false]
      · exact rfl
      · exact rfl
      · decide +kernel
      · intro R
        refine ⟨_, _, _, (by repeat constructor), (by repeat constructor), (by repeat constructor), ?_⟩
        (apply EffW.stFd x; exact rfl; exact rfl; exact SzC.eq; exact hxo; (rw [k1]; omega); (rw [k1]; exact w6))
      exact Par.nil
    · repeat (first | exact AllN.nil | (apply AllN.cons; (intro c x; (repeat (first | exact IndA.nil | (apply IndA.skip; decide +kernel) | apply IndA.same))))) 
    · repeat (first | exact AllN.nil | (apply AllN.cons; (intro c x; (repeat (first | exact IndT.nil | (apply IndT.skip; decide +kernel) | apply IndT.same))))) 
    · exact fun _ => rfl
    intro c
    refine ⟨_, (by repeat constructor), ?_⟩
    apply WE.writ
    · (focus ((repeat (first | exact Writ.nil | apply Writ.some | apply Writ.none)); done))
    rw [e2]
    repeat first
      | (apply WL.q; exact rfl; exact rfl; exact rfl; (first | (apply EvW.move; exact rfl) | (apply EvW.assign; exact rfl) | (apply EvW.arN; exact rfl; exact rfl; exact rfl; (first | (refine i64_in ?_ ?_ <;> omega) | (constructor <;> simp only [IntKind.min, IntKind.max, IntKind.signed, IntKind.bits, ↓reduceIte, Bool.false_eq_true] <;> omega)))))
      | refine WC.region ?_ | refine WL.nil ?_ | refine WE.next ?_ | refine WE.out ?_
    rw [show (p.length : Int) + ((t + 1 : Nat) : Int) - 1 = (p.length : Int) + (t : Nat) by omega]
    exact WE.again (s := t + 1) (t) ⟨by omega, by omega⟩ (by (focus ((repeat (first | exact trivial | (refine ⟨rfl, ?_⟩))); done))) (fun _ h => (by (try simp only []); exact h.keep (by repeat constructor))) (by (try simp only []); omega)
  have hle : t = lo := by omega
  subst hle
  have e3 : p ++ (l.take t ++ (x :: (l.drop t ++ q))) = p ++ ((l.take t ++ x :: l.drop t) ++ q) := by simp [List.append_assoc]
  rw [e3]
  have hpm : (l.take t ++ x :: l.drop t).Perm (l ++ [x]) := by
    refine List.perm_middle.trans ?_
    rw [List.take_append_drop]
    exact (List.perm_append_singleton x l).symm
  have hst := sorted_among hl h02 hlo hhi
  repeat first
    | (apply WL.q; exact rfl; exact rfl; exact rfl; (first | (apply EvW.move; exact rfl) | (apply EvW.cmpF; exact rfl; exact rfl; exact rfl; omega)))
    | refine WC.seq ?_ | refine WC.region ?_ | refine WL.nil ?_ | refine WE.next ?_ | refine WC.exit ?_ | refine WE.pass ?_ | refine WE.hit ?_ | refine WC.condF rfl ?_ | refine WC.ret ?_ | refine WE.passRet ?_
  refine WE.keep (xs := [.own 70 6 (v) (p ++ ((l.take t ++ x :: l.drop t) ++ q)).length ((p ++ ((l.take t ++ x :: l.drop t) ++ q)).flatMap fdC)]) (by repeat constructor) ?_
  first | refine WE.end0 rfl ?_ | refine WE.ret0 rfl ?_
  exact ⟨rfl, _, rfl, hpm, hst⟩
end Go.Proofs.Ytknclcjmfgdphaa
namespace Go.Proofs.Ytknclcjmfgdphaa
open Go.RowKit Go.BK
theorem OneV.app {a b : List Fd} (h : OneV a) (h2 : OneV b) : OneV (a ++ b) := fun f hf => (List.mem_append.1 hf).elim (h f) (h2 f)
theorem OneV.left {a b : List Fd} (h : OneV (a ++ b)) : OneV a := fun f hf => h f (List.mem_append_left _ hf)
theorem OneV.right {a b : List Fd} (h : OneV (a ++ b)) : OneV b := fun f hf => h f (List.mem_append_right _ hf)
theorem merged {l1 l2 r1 r2 m1 m2 : List Fd} (hl : (l1 ++ l2).Pairwise kle) (hr : (r1 ++ r2).Pairwise kle) (hA : ∀ a ∈ l1, ∀ b ∈ r2, kle a b) (hB : ∀ a ∈ r1, ∀ b ∈ l2, kle a b)
    (h1 : m1.Perm (l1 ++ r1)) (s1 : m1.Pairwise kle) (h2 : m2.Perm (l2 ++ r2)) (s2 : m2.Pairwise kle) : (m1 ++ m2).Perm ((l1 ++ l2) ++ (r1 ++ r2)) ∧ (m1 ++ m2).Pairwise kle := by
  rw [List.pairwise_append] at hl hr
  refine ⟨?_, List.pairwise_append.2 ⟨s1, s2, fun a ha b hb => ?_⟩⟩
  · refine (h1.append h2).trans ?_
    rw [List.append_assoc, List.append_assoc]
    refine List.Perm.append_left l1 ?_
    rw [← List.append_assoc, ← List.append_assoc]
    exact List.Perm.append_right r2 List.perm_append_comm
  · have ha := h1.mem_iff.1 ha
    have hb := h2.mem_iff.1 hb
    rcases List.mem_append.1 ha with ha | ha
    · rcases List.mem_append.1 hb with hb | hb
      · exact hl.2.2 a ha b hb
      · exact hA a ha b hb
    · rcases List.mem_append.1 hb with hb | hb
      · exact hB a ha b hb
      · exact hr.2.2 a ha b hb
set_option maxHeartbeats 4000000 in
set_option maxRecDepth 4000 in
theorem symMerge_all (N : Nat) : ∀ (v : Value) (p l r q : List Fd) (a m b : Int) (w : World) (S : BSet) (hS : (sepL [.own 70 6 (v) (p ++ (l ++ (r ++ q))).length ((p ++ (l ++ (r ++ q))).flatMap fdC)]).sat S w) (h1 : OneV (p ++ (l ++ (r ++ q)))) (hn : (p ++ (l ++ (r ++ q))).length ≤ 1048576) (hl : l.Pairwise kle) (hr : r.Pairwise kle) (hl0 : l ≠ []) (hr0 : r ≠ []) (hN : l.length + r.length ≤ N) (ha : a = p.length) (hm : m = p.length + l.length) (hb : b = p.length + l.length + r.length),
    Tri Try.prog 79 #[v, i64 a, i64 m, i64 b, .func (.func 34) #[] #[]] w S fun u A => u = .tuple #[] ∧ ∃ m', A = [.own 70 6 (v) (p ++ (m' ++ q)).length ((p ++ (m' ++ q)).flatMap fdC)] ∧ m'.Perm (l ++ r) ∧ m'.Pairwise kle := by
  induction N with
  | zero =>
    intro v p l r q a m b w S hS h1 hn hl hr hl0 hr0 hN
    have := List.length_pos_iff.2 hl0
    omega
  | succ N ih =>
    intro v p l r q a m b w S hS h1 hn hl hr hl0 hr0 hN ha hm hb
    have hL0 := List.length_pos_iff.2 hl0
    have hR0 := List.length_pos_iff.2 hr0
    have hn' := hn
    simp only [List.length_append] at hn
    by_cases hL1 : l.length = 1
    · obtain ⟨x, rfl⟩ := List.length_eq_one_iff.1 hL1
      exact symMerge_one v p x r q a m b w S hS h1 hn' hr ha hm hb
    by_cases hR1 : r.length = 1
    · obtain ⟨x, rfl⟩ := List.length_eq_one_iff.1 hR1
      exact symMerge_last v p l x q a m b w S hS h1 hn' hl hL1 ha hm hb
    have hma : ¬ m - a = 1 := by omega
    have hbm : ¬ b - m = 1 := by omega
    obtain ⟨M, hM⟩ : ∃ M : Nat, (l.length + r.length) / 2 = M := ⟨_, rfl⟩
    have hM1 : 2 * M ≤ l.length + r.length ∧ l.length + r.length ≤ 2 * M + 1 := by omega
    clear hM
    have hmid : IntKind.i64.wrap ((a + b).fdiv (2 ^ min (Int.toNat 1) IntKind.u64.bits)) = (p.length : Int) + M := by
      rw [halve _ (by omega) (by omega)]; omega
    refine Tri.enter (l := [v, i64 a, i64 m, i64 b, .func (.func 34) #[] #[]]) Try.func79 rfl Try.ntmps79 rfl [(0, v), (1, i64 a), (2, i64 m), (3, i64 b), (4, .func (.func 34) #[] #[])] (subA rfl) hS ?_
    repeat first
      | (apply WL.q; exact rfl; exact rfl; exact rfl; (first | (apply EvW.move; exact rfl) | (apply EvW.assign; exact rfl) | (apply EvW.cmpF; exact rfl; exact rfl; exact rfl; omega) | (apply EvW.cmp; exact rfl; exact rfl; exact rfl) | (apply EvW.arN; exact rfl; exact rfl; exact rfl; (first | (refine i64_in ?_ ?_ <;> omega) | (constructor <;> simp only [IntKind.min, IntKind.max, IntKind.signed, IntKind.bits, ↓reduceIte, Bool.false_eq_true] <;> omega))) | (apply EvW.convN; exact rfl; exact UndC.eq; exact UndC.eq; (first | (refine i64_in ?_ ?_ <;> omega) | (constructor <;> simp only [IntKind.min, IntKind.max, IntKind.signed, IntKind.bits, ↓reduceIte, Bool.false_eq_true] <;> omega))) | (apply EvW.conv; exact rfl; exact UndC.eq; exact UndC.eq) | (apply EvW.shr; exact rfl; exact rfl; omega)))
      | refine WC.seq ?_ | refine WC.region ?_ | refine WL.nil ?_ | refine WE.next ?_ | refine WC.skip ?_ | refine WC.condF rfl ?_
    rw [hmid]
    refine WC.mid (fun _ : Unit => [(0, v), (1, i64 a), (2, i64 m), (3, i64 b), (4, .func (.func 34) #[] #[]), (18, i64 ((p.length : Int) + M)), (19, i64 ((p.length : Int) + M + m)), (20, i64 ((p.length : Int) + ((M - r.length : Nat) : Int))), (21, i64 ((p.length : Int) + ((min M l.length : Nat) : Int)))]) (fun _ => [.own 70 6 (v) (p ++ (l ++ (r ++ q))).length ((p ++ (l ++ (r ++ q))).flatMap fdC)]) (fun _ => True) ?_ (fun _ _ => ?_)
    · refine WC.condP rfl (fun hgt => ?_) (fun hgt => ?_)
      · repeat first
          | (apply WL.q; exact rfl; exact rfl; exact rfl; (first | (apply EvW.move; exact rfl) | (apply EvW.assign; exact rfl) | (apply EvW.arN; exact rfl; exact rfl; exact rfl; (first | (refine i64_in ?_ ?_ <;> omega) | (constructor <;> simp only [IntKind.min, IntKind.max, IntKind.signed, IntKind.bits, ↓reduceIte, Bool.false_eq_true] <;> omega)))))
          | refine WC.seq ?_ | refine WC.region ?_ | refine WL.nil ?_ | refine WE.next ?_
        rw [show (p.length : Int) + M + m - b = (p.length : Int) + ((M - r.length : Nat) : Int) by omega, show min M l.length = M by omega]
        exact WE.mid (()) (trivial) (by (focus ((repeat (first | exact trivial | (refine ⟨rfl, ?_⟩))); done))) (fun _ h => (by (try simp only []); exact h.keep (by repeat constructor)))
      · repeat first
          | (apply WL.q; exact rfl; exact rfl; exact rfl; (first | (apply EvW.move; exact rfl) | (apply EvW.assign; exact rfl)))
          | refine WC.seq ?_ | refine WC.region ?_ | refine WL.nil ?_ | refine WE.next ?_
        rw [show ((M - r.length : Nat) : Int) = 0 by omega, Int.add_zero, show min M l.length = l.length by omega, ← ha, show a + (l.length : Int) = m by omega]
        exact WE.mid (()) (trivial) (by (focus ((repeat (first | exact trivial | (refine ⟨rfl, ?_⟩))); done))) (fun _ h => (by (try simp only []); exact h.keep (by repeat constructor)))
    repeat first
      | (apply WL.q; exact rfl; exact rfl; exact rfl; (first | (apply EvW.move; exact rfl) | (apply EvW.assign; exact rfl) | (apply EvW.arN; exact rfl; exact rfl; exact rfl; (first | (refine i64_in ?_ ?_ <;> omega) | (constructor <;> simp only [IntKind.min, IntKind.max, IntKind.signed, IntKind.bits, ↓reduceIte, Bool.false_eq_true] <;> omega)))))
      | refine WC.seq ?_ | refine WC.region ?_ | refine WL.nil ?_ | refine WE.next ?_ | refine WC.block ?_
    refine WC.loopK (σ := Nat × Nat) [0, 1, 2, 3, 4, 18, 19, 22] (fun s => [(20, i64 ((p.length : Int) + s.1)), (21, i64 ((p.length : Int) + s.2))]) (fun s => [.own 70 6 (v) (p ++ (l ++ (r ++ q))).length ((p ++ (l ++ (r ++ q))).flatMap fdC)]) (fun s => M - r.length ≤ s.1 ∧ s.1 ≤ s.2 ∧ s.2 ≤ min M l.length ∧ (s.1 = M - r.length ∨ kle (l.getD (s.1 - 1) default) (r.getD (M - s.1) default)) ∧ (s.2 = min M l.length ∨ kle (r.getD (M - s.2 - 1) default) (l.getD s.2 default))) (fun s => s.2 - s.1) (M - r.length, min M l.length) (by (focus ((repeat (first | exact Pick.nil | (apply Pick.cons; exact rfl))); done))) (by (focus ((repeat (first | exact trivial | (refine ⟨rfl, ?_⟩))); done))) (fun _ h => h.keep (by repeat constructor)) ⟨Nat.le_refl _, by simp only []; omega, Nat.le_refl _, .inl rfl, .inl rfl⟩ (fun s hs => ?_)
    obtain ⟨i, rr⟩ := s
    simp only [List.cons_append, List.nil_append] at hs ⊢
    obtain ⟨h00, h01, h02, hlo, hhi⟩ := hs
    by_cases hlt : i < rr
    · have hlt' : (p.length : Int) + i < (p.length : Int) + rr := by omega
      repeat first
        | (apply WL.q; exact rfl; exact rfl; exact rfl; (first | (apply EvW.move; exact rfl) | (apply EvW.assign; exact rfl) | (apply EvW.cmpT; exact rfl; exact rfl; exact rfl; omega) | (apply EvW.arN; exact rfl; exact rfl; exact rfl; (first | (refine i64_in ?_ ?_ <;> omega) | (constructor <;> simp only [IntKind.min, IntKind.max, IntKind.signed, IntKind.bits, ↓reduceIte, Bool.false_eq_true] <;> omega))) | (apply EvW.convN; exact rfl; exact UndC.eq; exact UndC.eq; (first | (refine i64_in ?_ ?_ <;> omega) | (constructor <;> simp only [IntKind.min, IntKind.max, IntKind.signed, IntKind.bits, ↓reduceIte, Bool.false_eq_true] <;> omega))) | (apply EvW.conv; exact rfl; exact UndC.eq; exact UndC.eq) | (apply EvW.shr; exact rfl; exact rfl; omega)))
        | refine WC.seq ?_ | refine WC.region ?_ | refine WL.nil ?_ | refine WE.next ?_ | refine WC.block ?_ | refine WC.skip ?_ | refine WC.condT rfl ?_
      rw [halve _ (by omega) (by omega), show ((p.length : Int) + i + ((p.length : Int) + rr)) / 2 = (p.length : Int) + ((i + rr) / 2 : Nat) by omega]
      obtain ⟨mi, hh⟩ : ∃ mi : Nat, (i + rr) / 2 = mi := ⟨_, rfl⟩
      rw [hh]
      have hh1 : i ≤ mi ∧ mi < rr := by omega
      clear hh
      have hw := get_in p l (r ++ q) mi (by omega)
      have hro := one_in h1 (show mi < l.length by omega)
      have hwx : (p ++ (l ++ (r ++ q))).getD (p.length + l.length + (M - mi - 1)) default = r.getD (M - mi - 1) default := by
        rw [← List.append_assoc, ← List.length_append]; exact get_in (p ++ l) r q _ (by omega)
      have hxo : (r.getD (M - mi - 1) default).v.oneCell' = true := one_in (p := p ++ l) (l := r) (s := q) (by rw [List.append_assoc]; exact h1) (by omega)
      have kx : ((p.length : Int) + M + m - 1 - ((p.length : Int) + (mi : Nat))).toNat = p.length + l.length + (M - mi - 1) := by omega
      have kh : ((p.length : Int) + (mi : Nat)).toNat = p.length + mi := by omega
      have hLn : (p ++ (l ++ (r ++ q))).length = p.length + l.length + r.length + q.length := by simp only [List.length_append]; omega
      by_cases hc : kle (l.getD mi default) (r.getD (M - mi - 1) default)
      · have hcv : ¬ cmpV (r.getD (M - mi - 1) default) (l.getD mi default) < 0 := fun hh => (cmpV_lt _ _).1 hh hc
        repeat refine WC.seq ?_
        apply WC.drawE ([[.own 70 6 (v) (p ++ (l ++ (r ++ q))).length ((p ++ (l ++ (r ++ q))).flatMap fdC)]]) ([]) Try.mixed
        · (focus ((repeat (first | exact Restr.nil | (apply Restr.keep; exact rfl; exact rfl) | (apply Restr.drop; exact rfl))); done))
        · exact rfl
        · exact rfl
        · decide +kernel
        · decide +kernel
        · decide +kernel
        · decide +kernel
        · repeat first
              | exact Draws.nil
              | (apply Draws.skip; exact rfl; exact rfl)
              | (apply Draws.at 0; exact rfl; decide +kernel
                 (first | (apply EvW.move; exact rfl) | (apply EvW.arN; exact rfl; exact rfl; exact rfl; (first | (refine i64_in ?_ ?_ <;> omega) | (constructor <;> simp only [IntKind.min, IntKind.max, IntKind.signed, IntKind.bits, ↓reduceIte, Bool.false_eq_true] <;> omega))) | (apply EvW.idxOwn; exact rfl; exact rfl; exact UndC.eq; exact SzC.eq; (focus ((repeat constructor); done)); omega; omega)))
              | (apply Draws.at 1; exact rfl; decide +kernel
                 fail)
              | (apply Draws.two 0; exact rfl; decide +kernel
                 fail
                 fail)
              | (apply Draws.at 2; exact rfl; decide +kernel
                 fail)
              | (apply Draws.two 1; exact rfl; decide +kernel
                 fail
                 fail)
          (apply Draws.at 0; exact rfl; decide +kernel; (apply EvW.ldFd (r.getD (M - mi - 1) default); exact rfl; exact AggC.eq; exact SzC.eq; exact .head; (rw [kx]; omega); (rw [kx]; exact hwx)))
          repeat first
              | exact Draws.nil
              | (apply Draws.skip; exact rfl; exact rfl)
              | (apply Draws.at 0; exact rfl; decide +kernel
                 (first | (apply EvW.move; exact rfl) | (apply EvW.idxOwn; exact rfl; exact rfl; exact UndC.eq; exact SzC.eq; (focus ((repeat constructor); done)); omega; omega)))
              | (apply Draws.at 1; exact rfl; decide +kernel
                 fail)
              | (apply Draws.two 0; exact rfl; decide +kernel
                 fail
                 fail)
              | (apply Draws.at 2; exact rfl; decide +kernel
                 fail)
              | (apply Draws.two 1; exact rfl; decide +kernel
                 fail
                 fail)
          (apply Draws.at 0; exact rfl; decide +kernel; (apply EvW.ldFd (l.getD mi default); exact rfl; exact AggC.eq; exact SzC.eq; exact .head; (rw [kh]; omega); (rw [kh]; exact hw)))
          repeat first
              | exact Draws.nil
              | (apply Draws.skip; exact rfl; exact rfl)
              | (apply Draws.at 0; exact rfl; decide +kernel
                 fail)
              | (apply Draws.at 1; exact rfl; decide +kernel
                 fail)
              | (apply Draws.two 0; exact rfl; decide +kernel
                 fail
                 fail)
              | (apply Draws.at 2; exact rfl; decide +kernel
                 fail)
              | (apply Draws.two 1; exact rfl; decide +kernel
                 fail
                 fail)
          (apply Draws.at 0; exact rfl; decide +kernel; (apply EvW.callVQ (caps := []); exact rfl; exact rfl; exact fun w1 S1 hS1 _ _ => cmp_spec (r.getD (M - mi - 1) default) (l.getD mi default) w1 S1 hS1 hxo hro; exact fun w => Try.call34 _ w; exact fun _ _ h => h))
          repeat first
              | exact Draws.nil
              | (apply Draws.skip; exact rfl; exact rfl)
              | (apply Draws.at 0; exact rfl; decide +kernel
                 (first | (apply EvW.cmpF; exact rfl; exact rfl; exact rfl; omega) | (apply EvW.notF; exact rfl)))
              | (apply Draws.at 1; exact rfl; decide +kernel
                 fail)
              | (apply Draws.two 0; exact rfl; decide +kernel
                 fail
                 fail)
              | (apply Draws.at 2; exact rfl; decide +kernel
                 fail)
              | (apply Draws.two 1; exact rfl; decide +kernel
                 fail
                 fail)
        apply WE.writ
        · (focus ((repeat (first | exact Writ.nil | apply Writ.some | apply Writ.none)); done))
        repeat first
          | (apply WL.q; exact rfl; exact rfl; exact rfl; (first | (apply EvW.move; exact rfl) | (apply EvW.assign; exact rfl) | (apply EvW.arN; exact rfl; exact rfl; exact rfl; (first | (refine i64_in ?_ ?_ <;> omega) | (constructor <;> simp only [IntKind.min, IntKind.max, IntKind.signed, IntKind.bits, ↓reduceIte, Bool.false_eq_true] <;> omega)))))
          | refine WC.region ?_ | refine WL.nil ?_ | refine WE.next ?_ | refine WE.out ?_ | refine WC.condT rfl ?_
        rw [show (p.length : Int) + (mi : Nat) + 1 = (p.length : Int) + ((mi + 1 : Nat) : Int) by omega]
        exact WE.again (s := (i, rr)) ((mi + 1, rr)) ⟨by simp only []; omega, by simp only []; omega, h02, .inr (by simp only [Nat.add_sub_cancel]; rw [← Nat.sub_sub]; exact hc), hhi⟩ (by (focus ((repeat (first | exact trivial | (refine ⟨rfl, ?_⟩))); done))) (fun _ h => (by (try simp only []); exact h.keep (by repeat constructor))) (by (try simp only []); omega)
      · have hcv : cmpV (r.getD (M - mi - 1) default) (l.getD mi default) < 0 := (cmpV_lt _ _).2 hc
        repeat refine WC.seq ?_
        apply WC.drawE ([[.own 70 6 (v) (p ++ (l ++ (r ++ q))).length ((p ++ (l ++ (r ++ q))).flatMap fdC)]]) ([]) Try.mixed
        · (focus ((repeat (first | exact Restr.nil | (apply Restr.keep; exact rfl; exact rfl) | (apply Restr.drop; exact rfl))); done))
        · exact rfl
        · exact rfl
        · decide +kernel
        · decide +kernel
        · decide +kernel
        · decide +kernel
        · repeat first
              | exact Draws.nil
              | (apply Draws.skip; exact rfl; exact rfl)
              | (apply Draws.at 0; exact rfl; decide +kernel
                 (first | (apply EvW.move; exact rfl) | (apply EvW.arN; exact rfl; exact rfl; exact rfl; (first | (refine i64_in ?_ ?_ <;> omega) | (constructor <;> simp only [IntKind.min, IntKind.max, IntKind.signed, IntKind.bits, ↓reduceIte, Bool.false_eq_true] <;> omega))) | (apply EvW.idxOwn; exact rfl; exact rfl; exact UndC.eq; exact SzC.eq; (focus ((repeat constructor); done)); omega; omega)))
              | (apply Draws.at 1; exact rfl; decide +kernel
                 fail)
              | (apply Draws.two 0; exact rfl; decide +kernel
                 fail
                 fail)
              | (apply Draws.at 2; exact rfl; decide +kernel
                 fail)
              | (apply Draws.two 1; exact rfl; decide +kernel
                 fail
                 fail)
          (apply Draws.at 0; exact rfl; decide +kernel; (apply EvW.ldFd (r.getD (M - mi - 1) default); exact rfl; exact AggC.eq; exact SzC.eq; exact .head; (rw [kx]; omega); (rw [kx]; exact hwx)))
          repeat first
              | exact Draws.nil
              | (apply Draws.skip; exact rfl; exact rfl)
              | (apply Draws.at 0; exact rfl; decide +kernel
                 (first | (apply EvW.move; exact rfl) | (apply EvW.idxOwn; exact rfl; exact rfl; exact UndC.eq; exact SzC.eq; (focus ((repeat constructor); done)); omega; omega)))
              | (apply Draws.at 1; exact rfl; decide +kernel
                 fail)
              | (apply Draws.two 0; exact rfl; decide +kernel
                 fail
                 fail)
              | (apply Draws.at 2; exact rfl; decide +kernel
                 fail)
              | (apply Draws.two 1; exact rfl; decide +kernel
                 fail
                 fail)
          (apply Draws.at 0; exact rfl; decide +kernel; (apply EvW.ldFd (l.getD mi default); exact rfl; exact AggC.eq; exact SzC.eq; exact .head; (rw [kh]; omega); (rw [kh]; exact hw)))
          repeat first
              | exact Draws.nil
              | (apply Draws.skip; exact rfl; exact rfl)
              | (apply Draws.at 0; exact rfl; decide +kernel
                 fail)
              | (apply Draws.at 1; exact rfl; decide +kernel
                 fail)
              | (apply Draws.two 0; exact rfl; decide +kernel
                 fail
                 fail)
              | (apply Draws.at 2; exact rfl; decide +kernel
                 fail)
              | (apply Draws.two 1; exact rfl; decide +kernel
                 fail
                 fail)
          (apply Draws.at 0; exact rfl; decide +kernel; (apply EvW.callVQ (caps := []); exact rfl; exact rfl; exact fun w1 S1 hS1 _ _ => cmp_spec (r.getD (M - mi - 1) default) (l.getD mi default) w1 S1 hS1 hxo hro; exact fun w => Try.call34 _ w; exact fun _ _ h => h))
          repeat first
              | exact Draws.nil
              | (apply Draws.skip; exact rfl; exact rfl)
              | (apply Draws.at 0; exact rfl; decide +kernel
                 (first | (apply EvW.cmpT; exact rfl; exact rfl; exact rfl; omega) | (apply EvW.notT; exact rfl)))
              | (apply Draws.at 1; exact rfl; decide +kernel
                 fail)
              | (apply Draws.two 0; exact rfl; decide +kernel
                 fail
                 fail)
              | (apply Draws.at 2; exact rfl; decide +kernel
                 fail)
              | (apply Draws.two 1; exact rfl; decide +kernel
                 fail
                 fail)
        apply WE.writ
        · (focus ((repeat (first | exact Writ.nil | apply Writ.some | apply Writ.none)); done))
        repeat first
          | (apply WL.q; exact rfl; exact rfl; exact rfl; (first | (apply EvW.move; exact rfl) | (apply EvW.assign; exact rfl)))
          | refine WC.region ?_ | refine WL.nil ?_ | refine WE.next ?_ | refine WE.out ?_ | refine WC.condF rfl ?_
        exact WE.again (s := (i, rr)) ((i, mi)) ⟨h00, hh1.1, by simp only []; omega, hlo, .inr (kle_not hc)⟩ (by (focus ((repeat (first | exact trivial | (refine ⟨rfl, ?_⟩))); done))) (fun _ h => (by (try simp only []); exact h.keep (by repeat constructor))) (by (try simp only []); omega)
    obtain rfl : i = rr := by omega
    have hi0 := h00
    have hi1 := h02
    clear h00 h01 h02 hlt
    obtain ⟨j, hj⟩ : ∃ j, M - i = j := ⟨_, rfl⟩
    rw [hj] at hlo hhi
    have hA := cross hl hr (i := i) (j := j) (by
      rcases hlo with h | h
      · by_cases h0 : i = 0
        · exact .inl h0
        · exact .inr (.inl (by omega))
      · exact .inr (.inr ⟨by omega, h⟩))
    have hB := cross hr hl (i := j) (j := i) (by
      rcases hhi with h | h
      · by_cases h0 : j = 0
        · exact .inl h0
        · exact .inr (.inl (by omega))
      · exact .inr (.inr ⟨by omega, h⟩))
    have hl1l : (l.take i).length = i := by rw [List.length_take]; omega
    have hl2l : (l.drop i).length = l.length - i := List.length_drop
    have hr1l : (r.take j).length = j := by rw [List.length_take]; omega
    have hr2l : (r.drop j).length = r.length - j := List.length_drop
    have hls := List.take_append_drop i l
    have hrs := List.take_append_drop j r
    generalize l.take i = l1 at hA hl1l hls
    generalize l.drop i = l2 at hB hl2l hls
    generalize r.take j = r1 at hB hr1l hrs
    generalize r.drop j = r2 at hA hr2l hrs
    clear hlo hhi
    have hfin := fun m1 m2 h1 s1 h2 s2 => merged (m1 := m1) (m2 := m2) (by rw [hls]; exact hl) (by rw [hrs]; exact hr) hA hB h1 s1 h2 s2
    rw [hls, hrs] at hfin
    have hl' := hl
    have hr' := hr
    rw [← hls, List.pairwise_append] at hl'
    rw [← hrs, List.pairwise_append] at hr'
    have hOp : OneV p := h1.left
    have hOl : OneV (l1 ++ l2) := by rw [hls]; exact h1.right.left
    have hOr : OneV (r1 ++ r2) := by rw [hrs]; exact h1.right.right.left
    have hOq : OneV q := h1.right.right.right
    have hOl1 := hOl.left
    have hOl2 := hOl.right
    have hOr1 := hOr.left
    have hOr2 := hOr.right
    have hlen : p.length + (l1.length + (l2.length + (r1.length + (r2.length + q.length)))) ≤ 1048576 := by omega
    by_cases hj0 : j = 0
    · by_cases hiL : i = l.length
      · skip
        have e0 : p ++ (l ++ (r ++ q)) = p ++ (l1 ++ (r1 ++ (l2 ++ (r2 ++ q)))) := by
          rw [← hls, ← hrs]
          first
            | (rw [List.length_eq_zero_iff.1 (show l2.length = 0 by omega)]; simp [List.append_assoc])
            | (rw [List.length_eq_zero_iff.1 (show r1.length = 0 by omega)]; simp [List.append_assoc])
        rw [e0]
        obtain ⟨m1, hm1⟩ : ∃ m1, m1 = l1 ++ r1 := ⟨_, rfl⟩
        have hp1 : m1.Perm (l1 ++ r1) := by rw [hm1]
        have hs1 : m1.Pairwise kle := by
          rw [hm1]
          first
            | (rw [List.length_eq_zero_iff.1 (show l1.length = 0 by omega)]; exact hr'.1)
            | (rw [List.length_eq_zero_iff.1 (show r1.length = 0 by omega), List.append_nil]; exact hl'.1)
        rw [show p ++ (l1 ++ (r1 ++ (l2 ++ (r2 ++ q)))) = p ++ (m1 ++ (l2 ++ (r2 ++ q))) by rw [hm1]; simp [List.append_assoc]]
        have hm1l : m1.length = M := by have := hp1.length_eq; rw [List.length_append] at this; omega
        have hOm1 : OneV m1 := (hOl1.app hOr1).perm hp1
        rw [show p ++ (m1 ++ (l2 ++ (r2 ++ q))) = (p ++ m1) ++ (l2 ++ (r2 ++ q)) by simp [List.append_assoc]]
        obtain ⟨m2, hm2⟩ : ∃ m2, m2 = l2 ++ r2 := ⟨_, rfl⟩
        have hp2 : m2.Perm (l2 ++ r2) := by rw [hm2]
        have hs2 : m2.Pairwise kle := by
          rw [hm2]
          first
            | (rw [List.length_eq_zero_iff.1 (show l2.length = 0 by omega)]; exact hr'.2.1)
            | (rw [List.length_eq_zero_iff.1 (show r2.length = 0 by omega), List.append_nil]; exact hl'.2.1)
        rw [show (p ++ m1) ++ (l2 ++ (r2 ++ q)) = (p ++ m1) ++ (m2 ++ q) by rw [hm2]; simp [List.append_assoc]]
        rw [show (p ++ m1) ++ (m2 ++ q) = p ++ ((m1 ++ m2) ++ q) by simp [List.append_assoc]]
        obtain ⟨hf1, hf2⟩ := hfin m1 m2 hp1 hs1 hp2 hs2
        repeat first
          | (apply WL.q; exact rfl; exact rfl; exact rfl; (first | (apply EvW.move; exact rfl) | (apply EvW.assign; exact rfl) | (apply EvW.cmpT; exact rfl; exact rfl; exact rfl; omega) | (apply EvW.cmpF; exact rfl; exact rfl; exact rfl; omega) | (apply EvW.arN; exact rfl; exact rfl; exact rfl; (first | (refine i64_in ?_ ?_ <;> omega) | (constructor <;> simp only [IntKind.min, IntKind.max, IntKind.signed, IntKind.bits, ↓reduceIte, Bool.false_eq_true] <;> omega))) | (apply EvW.pickT; exact rfl; exact rfl) | (apply EvW.pickF; exact rfl; exact rfl)))
          | refine WC.seq ?_ | refine WC.region ?_ | refine WL.nil ?_ | refine WE.next ?_ | refine WC.skip ?_ | refine WC.exit ?_ | refine WE.pass ?_ | refine WE.hit ?_ | refine WC.condF rfl ?_ | refine WL.wanted rfl rfl rfl ?_ | refine WL.unwanted rfl rfl rfl rfl ?_
        refine WE.keep (xs := [.own 70 6 (v) (p ++ ((m1 ++ m2) ++ q)).length ((p ++ ((m1 ++ m2) ++ q)).flatMap fdC)]) (by repeat constructor) ?_
        first | refine WE.end0 rfl ?_ | refine WE.ret0 rfl ?_
        exact ⟨rfl, _, rfl, hf1, hf2⟩
      · skip
        have e0 : p ++ (l ++ (r ++ q)) = p ++ (l1 ++ (r1 ++ (l2 ++ (r2 ++ q)))) := by
          rw [← hls, ← hrs]
          first
            | (rw [List.length_eq_zero_iff.1 (show l2.length = 0 by omega)]; simp [List.append_assoc])
            | (rw [List.length_eq_zero_iff.1 (show r1.length = 0 by omega)]; simp [List.append_assoc])
        rw [e0]
        obtain ⟨m1, hm1⟩ : ∃ m1, m1 = l1 ++ r1 := ⟨_, rfl⟩
        have hp1 : m1.Perm (l1 ++ r1) := by rw [hm1]
        have hs1 : m1.Pairwise kle := by
          rw [hm1]
          first
            | (rw [List.length_eq_zero_iff.1 (show l1.length = 0 by omega)]; exact hr'.1)
            | (rw [List.length_eq_zero_iff.1 (show r1.length = 0 by omega), List.append_nil]; exact hl'.1)
        rw [show p ++ (l1 ++ (r1 ++ (l2 ++ (r2 ++ q)))) = p ++ (m1 ++ (l2 ++ (r2 ++ q))) by rw [hm1]; simp [List.append_assoc]]
        have hm1l : m1.length = M := by have := hp1.length_eq; rw [List.length_append] at this; omega
        have hOm1 : OneV m1 := (hOl1.app hOr1).perm hp1
        rw [show p ++ (m1 ++ (l2 ++ (r2 ++ q))) = (p ++ m1) ++ (l2 ++ (r2 ++ q)) by simp [List.append_assoc]]
        repeat first
          | (apply WL.q; exact rfl; exact rfl; exact rfl; (first | (apply EvW.move; exact rfl) | (apply EvW.assign; exact rfl) | (apply EvW.cmpT; exact rfl; exact rfl; exact rfl; omega) | (apply EvW.cmpF; exact rfl; exact rfl; exact rfl; omega) | (apply EvW.arN; exact rfl; exact rfl; exact rfl; (first | (refine i64_in ?_ ?_ <;> omega) | (constructor <;> simp only [IntKind.min, IntKind.max, IntKind.signed, IntKind.bits, ↓reduceIte, Bool.false_eq_true] <;> omega))) | (apply EvW.pickT; exact rfl; exact rfl)))
          | refine WC.seq ?_ | refine WC.region ?_ | refine WL.nil ?_ | refine WE.next ?_ | refine WC.skip ?_ | refine WC.exit ?_ | refine WE.pass ?_ | refine WE.hit ?_ | refine WC.condT rfl ?_ | refine WC.condF rfl ?_ | refine WL.wanted rfl rfl rfl ?_
        try refine WL.wanted rfl rfl rfl ?_
        apply WL.callA ([.own 70 6 (v) ((p ++ m1) ++ (l2 ++ (r2 ++ q))).length (((p ++ m1) ++ (l2 ++ (r2 ++ q))).flatMap fdC)])
        · exact rfl
        · exact rfl
        · exact fun w => Try.call79 _ w
        · (focus ((repeat constructor); done))
        · exact fun w1 S1 hS1 hs1 ho1 => ih v (p ++ m1) l2 r2 q _ _ _ w1 S1 hS1 ((hOp.app hOm1).app (hOl2.app (hOr2.app hOq))) (by simp only [List.length_append]; omega) hl'.2.1 hr'.2.1 (List.ne_nil_of_length_pos (by omega)) (List.ne_nil_of_length_pos (by omega)) (by omega) (by rw [List.length_append]; omega) (by rw [List.length_append]; omega) (by rw [List.length_append]; omega)
        rintro _ _ ⟨rfl, m2, rfl, hp2, hs2⟩
        first | refine WL.app4 ?_ | refine WL.app3 ?_ | refine WL.app2 ?_ | refine WL.app1 ?_ | refine WL.app0 ?_ | skip
        rw [show (p ++ m1) ++ (m2 ++ q) = p ++ ((m1 ++ m2) ++ q) by simp [List.append_assoc]]
        obtain ⟨hf1, hf2⟩ := hfin m1 m2 hp1 hs1 hp2 hs2
        repeat first
          | refine WL.nil ?_
        refine WE.keep (xs := [.own 70 6 (v) (p ++ ((m1 ++ m2) ++ q)).length ((p ++ ((m1 ++ m2) ++ q)).flatMap fdC)]) (by repeat constructor) ?_
        first | refine WE.end0 rfl ?_ | refine WE.ret0 rfl ?_
        exact ⟨rfl, _, rfl, hf1, hf2⟩
    by_cases hiL : i = l.length
    · skip
      have e0 : p ++ (l ++ (r ++ q)) = p ++ (l1 ++ (r1 ++ (l2 ++ (r2 ++ q)))) := by
        rw [← hls, ← hrs]
        first
          | (rw [List.length_eq_zero_iff.1 (show l2.length = 0 by omega)]; simp [List.append_assoc])
          | (rw [List.length_eq_zero_iff.1 (show r1.length = 0 by omega)]; simp [List.append_assoc])
      rw [e0]
      repeat first
        | (apply WL.q; exact rfl; exact rfl; exact rfl; (first | (apply EvW.move; exact rfl) | (apply EvW.assign; exact rfl) | (apply EvW.cmpT; exact rfl; exact rfl; exact rfl; omega) | (apply EvW.cmpF; exact rfl; exact rfl; exact rfl; omega) | (apply EvW.arN; exact rfl; exact rfl; exact rfl; (first | (refine i64_in ?_ ?_ <;> omega) | (constructor <;> simp only [IntKind.min, IntKind.max, IntKind.signed, IntKind.bits, ↓reduceIte, Bool.false_eq_true] <;> omega))) | (apply EvW.pickT; exact rfl; exact rfl) | (apply EvW.pickF; exact rfl; exact rfl)))
        | refine WC.seq ?_ | refine WC.region ?_ | refine WL.nil ?_ | refine WE.next ?_ | refine WC.skip ?_ | refine WC.exit ?_ | refine WE.pass ?_ | refine WE.hit ?_ | refine WC.condT rfl ?_ | refine WC.condF rfl ?_ | refine WL.wanted rfl rfl rfl ?_ | refine WL.unwanted rfl rfl rfl rfl ?_
      try refine WL.wanted rfl rfl rfl ?_
      apply WL.callA ([.own 70 6 (v) (p ++ (l1 ++ (r1 ++ (l2 ++ (r2 ++ q))))).length ((p ++ (l1 ++ (r1 ++ (l2 ++ (r2 ++ q))))).flatMap fdC)])
      · exact rfl
      · exact rfl
      · exact fun w => Try.call79 _ w
      · (focus ((repeat constructor); done))
      · exact fun w1 S1 hS1 hs1 ho1 => ih v p l1 r1 (l2 ++ (r2 ++ q)) _ _ _ w1 S1 hS1 (hOp.app (hOl1.app (hOr1.app (hOl2.app (hOr2.app hOq))))) (by simp only [List.length_append]; omega) hl'.1 hr'.1 (List.ne_nil_of_length_pos (by omega)) (List.ne_nil_of_length_pos (by omega)) (by omega) (by omega) (by omega) (by omega)
      rintro _ _ ⟨rfl, m1, rfl, hp1, hs1⟩
      first | refine WL.app4 ?_ | refine WL.app3 ?_ | refine WL.app2 ?_ | refine WL.app1 ?_ | refine WL.app0 ?_ | skip
      have hm1l : m1.length = M := by have := hp1.length_eq; rw [List.length_append] at this; omega
      have hOm1 : OneV m1 := (hOl1.app hOr1).perm hp1
      rw [show p ++ (m1 ++ (l2 ++ (r2 ++ q))) = (p ++ m1) ++ (l2 ++ (r2 ++ q)) by simp [List.append_assoc]]
      obtain ⟨m2, hm2⟩ : ∃ m2, m2 = l2 ++ r2 := ⟨_, rfl⟩
      have hp2 : m2.Perm (l2 ++ r2) := by rw [hm2]
      have hs2 : m2.Pairwise kle := by
        rw [hm2]
        first
          | (rw [List.length_eq_zero_iff.1 (show l2.length = 0 by omega)]; exact hr'.2.1)
          | (rw [List.length_eq_zero_iff.1 (show r2.length = 0 by omega), List.append_nil]; exact hl'.2.1)
      rw [show (p ++ m1) ++ (l2 ++ (r2 ++ q)) = (p ++ m1) ++ (m2 ++ q) by rw [hm2]; simp [List.append_assoc]]
      rw [show (p ++ m1) ++ (m2 ++ q) = p ++ ((m1 ++ m2) ++ q) by simp [List.append_assoc]]
      obtain ⟨hf1, hf2⟩ := hfin m1 m2 hp1 hs1 hp2 hs2
      repeat first
        | (apply WL.q; exact rfl; exact rfl; exact rfl; (first | (apply EvW.move; exact rfl) | (apply EvW.cmpF; exact rfl; exact rfl; exact rfl; omega) | (apply EvW.pickF; exact rfl; exact rfl)))
        | refine WC.seq ?_ | refine WC.region ?_ | refine WL.nil ?_ | refine WE.next ?_ | refine WC.skip ?_ | refine WC.condF rfl ?_ | refine WL.unwanted rfl rfl rfl rfl ?_
      refine WE.keep (xs := [.own 70 6 (v) (p ++ ((m1 ++ m2) ++ q)).length ((p ++ ((m1 ++ m2) ++ q)).flatMap fdC)]) (by repeat constructor) ?_
      first | refine WE.end0 rfl ?_ | refine WE.ret0 rfl ?_
      exact ⟨rfl, _, rfl, hf1, hf2⟩
    by_cases hi00 : i = 0
    · by_cases hjR : j = r.length
      · skip
        have e0 : p ++ (l ++ (r ++ q)) = (p ++ l1) ++ (l2 ++ (r1 ++ (r2 ++ q))) := by rw [← hls, ← hrs]; simp [List.append_assoc]
        have hOO : OneV ((p ++ l1) ++ (l2 ++ (r1 ++ (r2 ++ q)))) := (hOp.app hOl1).app (hOl2.app (hOr1.app (hOr2.app hOq)))
        rw [e0]
        repeat first
          | (apply WL.q; exact rfl; exact rfl; exact rfl; (first | (apply EvW.move; exact rfl) | (apply EvW.assign; exact rfl) | (apply EvW.cmpT; exact rfl; exact rfl; exact rfl; omega) | (apply EvW.cmpF; exact rfl; exact rfl; exact rfl; omega) | (apply EvW.arN; exact rfl; exact rfl; exact rfl; (first | (refine i64_in ?_ ?_ <;> omega) | (constructor <;> simp only [IntKind.min, IntKind.max, IntKind.signed, IntKind.bits, ↓reduceIte, Bool.false_eq_true] <;> omega))) | (apply EvW.pickT; exact rfl; exact rfl)))
          | refine WC.seq ?_ | refine WC.region ?_ | refine WL.nil ?_ | refine WE.next ?_ | refine WC.exit ?_ | refine WE.pass ?_ | refine WE.hit ?_ | refine WC.condT rfl ?_ | refine WC.condF rfl ?_ | refine WL.wanted rfl rfl rfl ?_
        try refine WL.wanted rfl rfl rfl ?_
        apply WL.callA ([.own 70 6 (v) ((p ++ l1) ++ (l2 ++ (r1 ++ (r2 ++ q)))).length (((p ++ l1) ++ (l2 ++ (r1 ++ (r2 ++ q)))).flatMap fdC)])
        · exact rfl
        · exact rfl
        · exact fun w => Try.call87 _ w
        · (focus ((repeat constructor); done))
        · exact fun w1 S1 hS1 hs1 ho1 => rotate_spec v (p ++ l1) l2 r1 (r2 ++ q) _ _ _ w1 S1 hS1 hOO (by simp only [List.length_append]; omega) (List.ne_nil_of_length_pos (by omega)) (List.ne_nil_of_length_pos (by omega)) (by rw [List.length_append]; omega) (by rw [List.length_append]; omega) (by rw [List.length_append]; omega)
        rintro _ _ ⟨rfl, rfl⟩
        first | refine WL.app4 ?_ | refine WL.app3 ?_ | refine WL.app2 ?_ | refine WL.app1 ?_ | refine WL.app0 ?_ | skip
        rw [show (p ++ l1) ++ (r1 ++ (l2 ++ (r2 ++ q))) = p ++ (l1 ++ (r1 ++ (l2 ++ (r2 ++ q)))) by simp [List.append_assoc]]
        obtain ⟨m1, hm1⟩ : ∃ m1, m1 = l1 ++ r1 := ⟨_, rfl⟩
        have hp1 : m1.Perm (l1 ++ r1) := by rw [hm1]
        have hs1 : m1.Pairwise kle := by
          rw [hm1]
          first
            | (rw [List.length_eq_zero_iff.1 (show l1.length = 0 by omega)]; exact hr'.1)
            | (rw [List.length_eq_zero_iff.1 (show r1.length = 0 by omega), List.append_nil]; exact hl'.1)
        rw [show p ++ (l1 ++ (r1 ++ (l2 ++ (r2 ++ q)))) = p ++ (m1 ++ (l2 ++ (r2 ++ q))) by rw [hm1]; simp [List.append_assoc]]
        have hm1l : m1.length = M := by have := hp1.length_eq; rw [List.length_append] at this; omega
        have hOm1 : OneV m1 := (hOl1.app hOr1).perm hp1
        rw [show p ++ (m1 ++ (l2 ++ (r2 ++ q))) = (p ++ m1) ++ (l2 ++ (r2 ++ q)) by simp [List.append_assoc]]
        obtain ⟨m2, hm2⟩ : ∃ m2, m2 = l2 ++ r2 := ⟨_, rfl⟩
        have hp2 : m2.Perm (l2 ++ r2) := by rw [hm2]
        have hs2 : m2.Pairwise kle := by
          rw [hm2]
          first
            | (rw [List.length_eq_zero_iff.1 (show l2.length = 0 by omega)]; exact hr'.2.1)
            | (rw [List.length_eq_zero_iff.1 (show r2.length = 0 by omega), List.append_nil]; exact hl'.2.1)
        rw [show (p ++ m1) ++ (l2 ++ (r2 ++ q)) = (p ++ m1) ++ (m2 ++ q) by rw [hm2]; simp [List.append_assoc]]
        rw [show (p ++ m1) ++ (m2 ++ q) = p ++ ((m1 ++ m2) ++ q) by simp [List.append_assoc]]
        obtain ⟨hf1, hf2⟩ := hfin m1 m2 hp1 hs1 hp2 hs2
        repeat first
          | (apply WL.q; exact rfl; exact rfl; exact rfl; (first | (apply EvW.move; exact rfl) | (apply EvW.cmpT; exact rfl; exact rfl; exact rfl; omega) | (apply EvW.cmpF; exact rfl; exact rfl; exact rfl; omega) | (apply EvW.pickT; exact rfl; exact rfl) | (apply EvW.pickF; exact rfl; exact rfl)))
          | refine WC.seq ?_ | refine WC.region ?_ | refine WL.nil ?_ | refine WE.next ?_ | refine WC.skip ?_ | refine WC.condF rfl ?_ | refine WL.wanted rfl rfl rfl ?_ | refine WL.unwanted rfl rfl rfl rfl ?_
        refine WE.keep (xs := [.own 70 6 (v) (p ++ ((m1 ++ m2) ++ q)).length ((p ++ ((m1 ++ m2) ++ q)).flatMap fdC)]) (by repeat constructor) ?_
        first | refine WE.end0 rfl ?_ | refine WE.ret0 rfl ?_
        exact ⟨rfl, _, rfl, hf1, hf2⟩
      · skip
        have e0 : p ++ (l ++ (r ++ q)) = (p ++ l1) ++ (l2 ++ (r1 ++ (r2 ++ q))) := by rw [← hls, ← hrs]; simp [List.append_assoc]
        have hOO : OneV ((p ++ l1) ++ (l2 ++ (r1 ++ (r2 ++ q)))) := (hOp.app hOl1).app (hOl2.app (hOr1.app (hOr2.app hOq)))
        rw [e0]
        repeat first
          | (apply WL.q; exact rfl; exact rfl; exact rfl; (first | (apply EvW.move; exact rfl) | (apply EvW.assign; exact rfl) | (apply EvW.cmpT; exact rfl; exact rfl; exact rfl; omega) | (apply EvW.cmpF; exact rfl; exact rfl; exact rfl; omega) | (apply EvW.arN; exact rfl; exact rfl; exact rfl; (first | (refine i64_in ?_ ?_ <;> omega) | (constructor <;> simp only [IntKind.min, IntKind.max, IntKind.signed, IntKind.bits, ↓reduceIte, Bool.false_eq_true] <;> omega))) | (apply EvW.pickT; exact rfl; exact rfl)))
          | refine WC.seq ?_ | refine WC.region ?_ | refine WL.nil ?_ | refine WE.next ?_ | refine WC.exit ?_ | refine WE.pass ?_ | refine WE.hit ?_ | refine WC.condT rfl ?_ | refine WC.condF rfl ?_ | refine WL.wanted rfl rfl rfl ?_
        try refine WL.wanted rfl rfl rfl ?_
        apply WL.callA ([.own 70 6 (v) ((p ++ l1) ++ (l2 ++ (r1 ++ (r2 ++ q)))).length (((p ++ l1) ++ (l2 ++ (r1 ++ (r2 ++ q)))).flatMap fdC)])
        · exact rfl
        · exact rfl
        · exact fun w => Try.call87 _ w
        · (focus ((repeat constructor); done))
        · exact fun w1 S1 hS1 hs1 ho1 => rotate_spec v (p ++ l1) l2 r1 (r2 ++ q) _ _ _ w1 S1 hS1 hOO (by simp only [List.length_append]; omega) (List.ne_nil_of_length_pos (by omega)) (List.ne_nil_of_length_pos (by omega)) (by rw [List.length_append]; omega) (by rw [List.length_append]; omega) (by rw [List.length_append]; omega)
        rintro _ _ ⟨rfl, rfl⟩
        first | refine WL.app4 ?_ | refine WL.app3 ?_ | refine WL.app2 ?_ | refine WL.app1 ?_ | refine WL.app0 ?_ | skip
        rw [show (p ++ l1) ++ (r1 ++ (l2 ++ (r2 ++ q))) = p ++ (l1 ++ (r1 ++ (l2 ++ (r2 ++ q)))) by simp [List.append_assoc]]
        obtain ⟨m1, hm1⟩ : ∃ m1, m1 = l1 ++ r1 := ⟨_, rfl⟩
        have hp1 : m1.Perm (l1 ++ r1) := by rw [hm1]
        have hs1 : m1.Pairwise kle := by
          rw [hm1]
          first
            | (rw [List.length_eq_zero_iff.1 (show l1.length = 0 by omega)]; exact hr'.1)
            | (rw [List.length_eq_zero_iff.1 (show r1.length = 0 by omega), List.append_nil]; exact hl'.1)
        rw [show p ++ (l1 ++ (r1 ++ (l2 ++ (r2 ++ q)))) = p ++ (m1 ++ (l2 ++ (r2 ++ q))) by rw [hm1]; simp [List.append_assoc]]
        have hm1l : m1.length = M := by have := hp1.length_eq; rw [List.length_append] at this; omega
        have hOm1 : OneV m1 := (hOl1.app hOr1).perm hp1
        rw [show p ++ (m1 ++ (l2 ++ (r2 ++ q))) = (p ++ m1) ++ (l2 ++ (r2 ++ q)) by simp [List.append_assoc]]
        repeat first
          | (apply WL.q; exact rfl; exact rfl; exact rfl; (first | (apply EvW.move; exact rfl) | (apply EvW.cmpT; exact rfl; exact rfl; exact rfl; omega) | (apply EvW.cmpF; exact rfl; exact rfl; exact rfl; omega) | (apply EvW.pickT; exact rfl; exact rfl) | (apply EvW.pickF; exact rfl; exact rfl)))
          | refine WC.seq ?_ | refine WC.region ?_ | refine WL.nil ?_ | refine WE.next ?_ | refine WC.skip ?_ | refine WC.condT rfl ?_ | refine WC.condF rfl ?_ | refine WL.wanted rfl rfl rfl ?_ | refine WL.unwanted rfl rfl rfl rfl ?_
        try refine WL.wanted rfl rfl rfl ?_
        apply WL.callA ([.own 70 6 (v) ((p ++ m1) ++ (l2 ++ (r2 ++ q))).length (((p ++ m1) ++ (l2 ++ (r2 ++ q))).flatMap fdC)])
        · exact rfl
        · exact rfl
        · exact fun w => Try.call79 _ w
        · (focus ((repeat constructor); done))
        · exact fun w1 S1 hS1 hs1 ho1 => ih v (p ++ m1) l2 r2 q _ _ _ w1 S1 hS1 ((hOp.app hOm1).app (hOl2.app (hOr2.app hOq))) (by simp only [List.length_append]; omega) hl'.2.1 hr'.2.1 (List.ne_nil_of_length_pos (by omega)) (List.ne_nil_of_length_pos (by omega)) (by omega) (by rw [List.length_append]; omega) (by rw [List.length_append]; omega) (by rw [List.length_append]; omega)
        rintro _ _ ⟨rfl, m2, rfl, hp2, hs2⟩
        first | refine WL.app4 ?_ | refine WL.app3 ?_ | refine WL.app2 ?_ | refine WL.app1 ?_ | refine WL.app0 ?_ | skip
        rw [show (p ++ m1) ++ (m2 ++ q) = p ++ ((m1 ++ m2) ++ q) by simp [List.append_assoc]]
        obtain ⟨hf1, hf2⟩ := hfin m1 m2 hp1 hs1 hp2 hs2
        repeat first
          | refine WL.nil ?_
        refine WE.keep (xs := [.own 70 6 (v) (p ++ ((m1 ++ m2) ++ q)).length ((p ++ ((m1 ++ m2) ++ q)).flatMap fdC)]) (by repeat constructor) ?_
        first | refine WE.end0 rfl ?_ | refine WE.ret0 rfl ?_
        exact ⟨rfl, _, rfl, hf1, hf2⟩
    by_cases hjR : j = r.length
    · skip
      have e0 : p ++ (l ++ (r ++ q)) = (p ++ l1) ++ (l2 ++ (r1 ++ (r2 ++ q))) := by rw [← hls, ← hrs]; simp [List.append_assoc]
      have hOO : OneV ((p ++ l1) ++ (l2 ++ (r1 ++ (r2 ++ q)))) := (hOp.app hOl1).app (hOl2.app (hOr1.app (hOr2.app hOq)))
      rw [e0]
      repeat first
        | (apply WL.q; exact rfl; exact rfl; exact rfl; (first | (apply EvW.move; exact rfl) | (apply EvW.assign; exact rfl) | (apply EvW.cmpT; exact rfl; exact rfl; exact rfl; omega) | (apply EvW.cmpF; exact rfl; exact rfl; exact rfl; omega) | (apply EvW.arN; exact rfl; exact rfl; exact rfl; (first | (refine i64_in ?_ ?_ <;> omega) | (constructor <;> simp only [IntKind.min, IntKind.max, IntKind.signed, IntKind.bits, ↓reduceIte, Bool.false_eq_true] <;> omega))) | (apply EvW.pickT; exact rfl; exact rfl)))
        | refine WC.seq ?_ | refine WC.region ?_ | refine WL.nil ?_ | refine WE.next ?_ | refine WC.exit ?_ | refine WE.pass ?_ | refine WE.hit ?_ | refine WC.condT rfl ?_ | refine WC.condF rfl ?_ | refine WL.wanted rfl rfl rfl ?_
      try refine WL.wanted rfl rfl rfl ?_
      apply WL.callA ([.own 70 6 (v) ((p ++ l1) ++ (l2 ++ (r1 ++ (r2 ++ q)))).length (((p ++ l1) ++ (l2 ++ (r1 ++ (r2 ++ q)))).flatMap fdC)])
      · exact rfl
      · exact rfl
      · exact fun w => Try.call87 _ w
      · (focus ((repeat constructor); done))
      · exact fun w1 S1 hS1 hs1 ho1 => rotate_spec v (p ++ l1) l2 r1 (r2 ++ q) _ _ _ w1 S1 hS1 hOO (by simp only [List.length_append]; omega) (List.ne_nil_of_length_pos (by omega)) (List.ne_nil_of_length_pos (by omega)) (by rw [List.length_append]; omega) (by rw [List.length_append]; omega) (by rw [List.length_append]; omega)
      rintro _ _ ⟨rfl, rfl⟩
      first | refine WL.app4 ?_ | refine WL.app3 ?_ | refine WL.app2 ?_ | refine WL.app1 ?_ | refine WL.app0 ?_ | skip
      rw [show (p ++ l1) ++ (r1 ++ (l2 ++ (r2 ++ q))) = p ++ (l1 ++ (r1 ++ (l2 ++ (r2 ++ q)))) by simp [List.append_assoc]]
      repeat first
        | (apply WL.q; exact rfl; exact rfl; exact rfl; (first | (apply EvW.move; exact rfl) | (apply EvW.cmpT; exact rfl; exact rfl; exact rfl; omega) | (apply EvW.pickT; exact rfl; exact rfl)))
        | refine WC.seq ?_ | refine WC.region ?_ | refine WL.nil ?_ | refine WE.next ?_ | refine WC.condT rfl ?_ | refine WL.wanted rfl rfl rfl ?_
      try refine WL.wanted rfl rfl rfl ?_
      apply WL.callA ([.own 70 6 (v) (p ++ (l1 ++ (r1 ++ (l2 ++ (r2 ++ q))))).length ((p ++ (l1 ++ (r1 ++ (l2 ++ (r2 ++ q))))).flatMap fdC)])
      · exact rfl
      · exact rfl
      · exact fun w => Try.call79 _ w
      · (focus ((repeat constructor); done))
      · exact fun w1 S1 hS1 hs1 ho1 => ih v p l1 r1 (l2 ++ (r2 ++ q)) _ _ _ w1 S1 hS1 (hOp.app (hOl1.app (hOr1.app (hOl2.app (hOr2.app hOq))))) (by simp only [List.length_append]; omega) hl'.1 hr'.1 (List.ne_nil_of_length_pos (by omega)) (List.ne_nil_of_length_pos (by omega)) (by omega) (by omega) (by omega) (by omega)
      rintro _ _ ⟨rfl, m1, rfl, hp1, hs1⟩
      first | refine WL.app4 ?_ | refine WL.app3 ?_ | refine WL.app2 ?_ | refine WL.app1 ?_ | refine WL.app0 ?_ | skip
      have hm1l : m1.length = M := by have := hp1.length_eq; rw [List.length_append] at this; omega
      have hOm1 : OneV m1 := (hOl1.app hOr1).perm hp1
      rw [show p ++ (m1 ++ (l2 ++ (r2 ++ q))) = (p ++ m1) ++ (l2 ++ (r2 ++ q)) by simp [List.append_assoc]]
      obtain ⟨m2, hm2⟩ : ∃ m2, m2 = l2 ++ r2 := ⟨_, rfl⟩
      have hp2 : m2.Perm (l2 ++ r2) := by rw [hm2]
      have hs2 : m2.Pairwise kle := by
        rw [hm2]
        first
          | (rw [List.length_eq_zero_iff.1 (show l2.length = 0 by omega)]; exact hr'.2.1)
          | (rw [List.length_eq_zero_iff.1 (show r2.length = 0 by omega), List.append_nil]; exact hl'.2.1)
      rw [show (p ++ m1) ++ (l2 ++ (r2 ++ q)) = (p ++ m1) ++ (m2 ++ q) by rw [hm2]; simp [List.append_assoc]]
      rw [show (p ++ m1) ++ (m2 ++ q) = p ++ ((m1 ++ m2) ++ q) by simp [List.append_assoc]]
      obtain ⟨hf1, hf2⟩ := hfin m1 m2 hp1 hs1 hp2 hs2
      repeat first
        | (apply WL.q; exact rfl; exact rfl; exact rfl; (first | (apply EvW.move; exact rfl) | (apply EvW.cmpT; exact rfl; exact rfl; exact rfl; omega) | (apply EvW.cmpF; exact rfl; exact rfl; exact rfl; omega) | (apply EvW.pickT; exact rfl; exact rfl)))
        | refine WC.seq ?_ | refine WC.region ?_ | refine WL.nil ?_ | refine WE.next ?_ | refine WC.skip ?_ | refine WC.condF rfl ?_ | refine WL.wanted rfl rfl rfl ?_
      refine WE.keep (xs := [.own 70 6 (v) (p ++ ((m1 ++ m2) ++ q)).length ((p ++ ((m1 ++ m2) ++ q)).flatMap fdC)]) (by repeat constructor) ?_
      first | refine WE.end0 rfl ?_ | refine WE.ret0 rfl ?_
      exact ⟨rfl, _, rfl, hf1, hf2⟩
    have e0 : p ++ (l ++ (r ++ q)) = (p ++ l1) ++ (l2 ++ (r1 ++ (r2 ++ q))) := by rw [← hls, ← hrs]; simp [List.append_assoc]
    have hOO : OneV ((p ++ l1) ++ (l2 ++ (r1 ++ (r2 ++ q)))) := (hOp.app hOl1).app (hOl2.app (hOr1.app (hOr2.app hOq)))
    rw [e0]
    repeat first
      | (apply WL.q; exact rfl; exact rfl; exact rfl; (first | (apply EvW.move; exact rfl) | (apply EvW.assign; exact rfl) | (apply EvW.cmpT; exact rfl; exact rfl; exact rfl; omega) | (apply EvW.cmpF; exact rfl; exact rfl; exact rfl; omega) | (apply EvW.arN; exact rfl; exact rfl; exact rfl; (first | (refine i64_in ?_ ?_ <;> omega) | (constructor <;> simp only [IntKind.min, IntKind.max, IntKind.signed, IntKind.bits, ↓reduceIte, Bool.false_eq_true] <;> omega))) | (apply EvW.pickT; exact rfl; exact rfl)))
      | refine WC.seq ?_ | refine WC.region ?_ | refine WL.nil ?_ | refine WE.next ?_ | refine WC.exit ?_ | refine WE.pass ?_ | refine WE.hit ?_ | refine WC.condT rfl ?_ | refine WC.condF rfl ?_ | refine WL.wanted rfl rfl rfl ?_
    try refine WL.wanted rfl rfl rfl ?_
    apply WL.callA ([.own 70 6 (v) ((p ++ l1) ++ (l2 ++ (r1 ++ (r2 ++ q)))).length (((p ++ l1) ++ (l2 ++ (r1 ++ (r2 ++ q)))).flatMap fdC)])
    · exact rfl
    · exact rfl
    · exact fun w => Try.call87 _ w
    · (focus ((repeat constructor); done))
    · exact fun w1 S1 hS1 hs1 ho1 => rotate_spec v (p ++ l1) l2 r1 (r2 ++ q) _ _ _ w1 S1 hS1 hOO (by simp only [List.length_append]; omega) (List.ne_nil_of_length_pos (by omega)) (List.ne_nil_of_length_pos (by omega)) (by rw [List.length_append]; omega) (by rw [List.length_append]; omega) (by rw [List.length_append]; omega)
    rintro _ _ ⟨rfl, rfl⟩
    first | refine WL.app4 ?_ | refine WL.app3 ?_ | refine WL.app2 ?_ | refine WL.app1 ?_ | refine WL.app0 ?_ | skip
    rw [show (p ++ l1) ++ (r1 ++ (l2 ++ (r2 ++ q))) = p ++ (l1 ++ (r1 ++ (l2 ++ (r2 ++ q)))) by simp [List.append_assoc]]
    repeat first
      | (apply WL.q; exact rfl; exact rfl; exact rfl; (first | (apply EvW.move; exact rfl) | (apply EvW.cmpT; exact rfl; exact rfl; exact rfl; omega) | (apply EvW.pickT; exact rfl; exact rfl)))
      | refine WC.seq ?_ | refine WC.region ?_ | refine WL.nil ?_ | refine WE.next ?_ | refine WC.condT rfl ?_ | refine WL.wanted rfl rfl rfl ?_
    try refine WL.wanted rfl rfl rfl ?_
    apply WL.callA ([.own 70 6 (v) (p ++ (l1 ++ (r1 ++ (l2 ++ (r2 ++ q))))).length ((p ++ (l1 ++ (r1 ++ (l2 ++ (r2 ++ q))))).flatMap fdC)])
    · exact rfl
    · exact rfl
    · exact fun w => Try.call79 _ w
    · (focus ((repeat constructor); done))
    · exact fun w1 S1 hS1 hs1 ho1 => ih v p l1 r1 (l2 ++ (r2 ++ q)) _ _ _ w1 S1 hS1 (hOp.app (hOl1.app (hOr1.app (hOl2.app (hOr2.app hOq))))) (by simp only [List.length_append]; omega) hl'.1 hr'.1 (List.ne_nil_of_length_pos (by omega)) (List.ne_nil_of_length_pos (by omega)) (by omega) (by omega) (by omega) (by omega)
    rintro _ _ ⟨rfl, m1, rfl, hp1, hs1⟩
    first | refine WL.app4 ?_ | refine WL.app3 ?_ | refine WL.app2 ?_ | refine WL.app1 ?_ | refine WL.app0 ?_ | skip
    have hm1l : m1.length = M := by have := hp1.length_eq; rw [List.length_append] at this; omega
    have hOm1 : OneV m1 := (hOl1.app hOr1).perm hp1
    rw [show p ++ (m1 ++ (l2 ++ (r2 ++ q))) = (p ++ m1) ++ (l2 ++ (r2 ++ q)) by simp [List.append_assoc]]
    repeat first
      | (apply WL.q; exact rfl; exact rfl; exact rfl; (first | (apply EvW.move; exact rfl) | (apply EvW.cmpT; exact rfl; exact rfl; exact rfl; omega) | (apply EvW.pickT; exact rfl; exact rfl)))
      | refine WC.seq ?_ | refine WC.region ?_ | refine WL.nil ?_ | refine WE.next ?_ | refine WC.condT rfl ?_ | refine WL.wanted rfl rfl rfl ?_
    try refine WL.wanted rfl rfl rfl ?_
    apply WL.callA ([.own 70 6 (v) ((p ++ m1) ++ (l2 ++ (r2 ++ q))).length (((p ++ m1) ++ (l2 ++ (r2 ++ q))).flatMap fdC)])
    · exact rfl
    · exact rfl
    · exact fun w => Try.call79 _ w
    · (focus ((repeat constructor); done))
    · exact fun w1 S1 hS1 hs1 ho1 => ih v (p ++ m1) l2 r2 q _ _ _ w1 S1 hS1 ((hOp.app hOm1).app (hOl2.app (hOr2.app hOq))) (by simp only [List.length_append]; omega) hl'.2.1 hr'.2.1 (List.ne_nil_of_length_pos (by omega)) (List.ne_nil_of_length_pos (by omega)) (by omega) (by rw [List.length_append]; omega) (by rw [List.length_append]; omega) (by rw [List.length_append]; omega)
    rintro _ _ ⟨rfl, m2, rfl, hp2, hs2⟩
    first | refine WL.app4 ?_ | refine WL.app3 ?_ | refine WL.app2 ?_ | refine WL.app1 ?_ | refine WL.app0 ?_ | skip
    rw [show (p ++ m1) ++ (m2 ++ q) = p ++ ((m1 ++ m2) ++ q) by simp [List.append_assoc]]
    obtain ⟨hf1, hf2⟩ := hfin m1 m2 hp1 hs1 hp2 hs2
    repeat first
      | refine WL.nil ?_
    refine WE.keep (xs := [.own 70 6 (v) (p ++ ((m1 ++ m2) ++ q)).length ((p ++ ((m1 ++ m2) ++ q)).flatMap fdC)]) (by repeat constructor) ?_
    first | refine WE.end0 rfl ?_ | refine WE.ret0 rfl ?_
    exact ⟨rfl, _, rfl, hf1, hf2⟩
end Go.Proofs.Ytknclcjmfgdphaa
namespace Go.Proofs.Ytknclcjmfgdphaa
open Go.RowKit Go.BK
theorem stable_lt (v : Value) (xs : List Fd) (n : Int) (w : World) (S : BSet) (hS : (sepL [.own 70 6 (v) (xs).length ((xs).flatMap fdC)]).sat S w) (h1 : OneV xs) (hn : n = xs.length) (hlt : n < 20) :
    Tri Try.prog 59 #[v, i64 n, .func (.func 34) #[] #[]] w S fun u A => u = .tuple #[] ∧ ∃ ys : List Fd, A = [.own 70 6 (v) (ys).length ((ys).flatMap fdC)] ∧ ys.Perm xs ∧ ys.Pairwise kle := by
  have h1' : OneV ([] ++ (xs ++ [])) := by rw [List.append_nil]; exact h1
  have hns : ¬ (20 : Int) < n := by omega
  refine Tri.enter (l := [v, i64 n, .func (.func 34) #[] #[]]) Try.func59 rfl Try.ntmps59 rfl [(0, v), (1, i64 n), (2, .func (.func 34) #[] #[])] (subA rfl) hS ?_
  repeat first
    | (apply WL.q; exact rfl; exact rfl; exact rfl; (first | (apply EvW.move; exact rfl) | (apply EvW.assign; exact rfl) | (apply EvW.cmpT; exact rfl; exact rfl; exact rfl; omega) | (apply EvW.cmpF; exact rfl; exact rfl; exact rfl; omega) | (apply EvW.cmp; exact rfl; exact rfl; exact rfl) | (apply EvW.arN; exact rfl; exact rfl; exact rfl; refine i64_in ?_ ?_ <;> omega) | (apply EvW.ar; exact rfl; exact rfl; exact rfl)))
    | refine WC.seq ?_ | refine WC.region ?_ | refine WL.nil ?_ | refine WE.next ?_ | refine WC.block ?_ | refine WC.skip ?_ | refine WC.exit ?_ | refine WE.pass ?_ | refine WE.hit ?_ | refine WE.miss rfl ?_ | refine WE.out ?_ | refine WC.condT rfl ?_ | refine WC.condF rfl ?_ | refine WC.ret ?_ | refine WE.passRet ?_ | refine WE.outRet ?_ | refine WL.wanted rfl rfl rfl ?_
  refine WC.loopK (σ := Nat) [0, 1, 2, 6] (fun s => [(7, i64 0), (8, i64 20)]) (fun s => [.own 70 6 (v) (xs).length ((xs).flatMap fdC)]) (fun s => s = 0) (fun s => s) 0 (by (focus ((repeat (first | exact Pick.nil | (apply Pick.cons; exact rfl))); done))) (by (focus ((repeat (first | exact trivial | (refine ⟨rfl, ?_⟩))); done))) (fun _ h => h.keep (by repeat constructor)) rfl (fun s hs => ?_)
  obtain ⟨k, rfl⟩ : ∃ q, q = s := ⟨s, rfl⟩
  simp only [List.cons_append, List.nil_append] at hs ⊢
  repeat first
    | (apply WL.q; exact rfl; exact rfl; exact rfl; (first | (apply EvW.move; exact rfl) | (apply EvW.assign; exact rfl) | (apply EvW.cmpT; exact rfl; exact rfl; exact rfl; omega) | (apply EvW.cmpF; exact rfl; exact rfl; exact rfl; omega) | (apply EvW.cmp; exact rfl; exact rfl; exact rfl) | (apply EvW.arN; exact rfl; exact rfl; exact rfl; refine i64_in ?_ ?_ <;> omega) | (apply EvW.ar; exact rfl; exact rfl; exact rfl)))
    | refine WC.seq ?_ | refine WC.region ?_ | refine WL.nil ?_ | refine WE.next ?_ | refine WC.block ?_ | refine WC.skip ?_ | refine WC.exit ?_ | refine WE.pass ?_ | refine WE.hit ?_ | refine WE.miss rfl ?_ | refine WE.out ?_ | refine WC.condT rfl ?_ | refine WC.condF rfl ?_ | refine WC.ret ?_ | refine WE.passRet ?_ | refine WE.outRet ?_ | refine WL.wanted rfl rfl rfl ?_
  rw [show xs = [] ++ (xs ++ []) by rw [List.append_nil]; rfl]
  try refine WL.wanted rfl rfl rfl ?_
  apply WL.callA ([.own 70 6 (v) ([] ++ (xs ++ [])).length (([] ++ (xs ++ [])).flatMap fdC)])
  · exact rfl
  · exact rfl
  · exact fun w => Try.call78 _ w
  · (focus ((repeat constructor); done))
  · exact fun w1 S1 hS1 hs1 ho1 => insert_spec v [] xs [] 0 n w1 S1 hS1 h1' (by simp only [List.length_append, List.length_nil]; omega) rfl (by simp only [List.length_nil]; omega)
  rintro _ _ ⟨rfl, ys, rfl, hp, hso⟩
  first | refine WL.app4 ?_ | refine WL.app3 ?_ | refine WL.app2 ?_ | refine WL.app1 ?_ | refine WL.app0 ?_ | skip
  rw [show ([] : List Fd) ++ (ys ++ []) = ys by simp]
  repeat first
    | (apply WL.q; exact rfl; exact rfl; exact rfl; (first | (apply EvW.move; exact rfl) | (apply EvW.assign; exact rfl) | (apply EvW.cmpT; exact rfl; exact rfl; exact rfl; omega) | (apply EvW.cmpF; exact rfl; exact rfl; exact rfl; omega) | (apply EvW.cmp; exact rfl; exact rfl; exact rfl) | (apply EvW.arN; exact rfl; exact rfl; exact rfl; refine i64_in ?_ ?_ <;> omega) | (apply EvW.ar; exact rfl; exact rfl; exact rfl)))
    | refine WC.seq ?_ | refine WC.region ?_ | refine WL.nil ?_ | refine WE.next ?_ | refine WC.block ?_ | refine WC.skip ?_ | refine WC.exit ?_ | refine WE.pass ?_ | refine WE.hit ?_ | refine WE.miss rfl ?_ | refine WE.out ?_ | refine WC.condT rfl ?_ | refine WC.condF rfl ?_ | refine WC.ret ?_ | refine WE.passRet ?_ | refine WE.outRet ?_ | refine WL.wanted rfl rfl rfl ?_
  refine WC.loopK (σ := Nat) [0, 1, 2] (fun s => [(6, i64 20)]) (fun s => [.own 70 6 (v) (ys).length ((ys).flatMap fdC)]) (fun s => s = 0) (fun s => s) 0 (by (focus ((repeat (first | exact Pick.nil | (apply Pick.cons; exact rfl))); done))) (by (focus ((repeat (first | exact trivial | (refine ⟨rfl, ?_⟩))); done))) (fun _ h => h.keep (by repeat constructor)) rfl (fun s hs => ?_)
  obtain ⟨k, rfl⟩ : ∃ q, q = s := ⟨s, rfl⟩
  simp only [List.cons_append, List.nil_append] at hs ⊢
  repeat first
    | (apply WL.q; exact rfl; exact rfl; exact rfl; (first | (apply EvW.move; exact rfl) | (apply EvW.assign; exact rfl) | (apply EvW.cmpT; exact rfl; exact rfl; exact rfl; omega) | (apply EvW.cmpF; exact rfl; exact rfl; exact rfl; omega) | (apply EvW.cmp; exact rfl; exact rfl; exact rfl) | (apply EvW.arN; exact rfl; exact rfl; exact rfl; refine i64_in ?_ ?_ <;> omega) | (apply EvW.ar; exact rfl; exact rfl; exact rfl)))
    | refine WC.seq ?_ | refine WC.region ?_ | refine WL.nil ?_ | refine WE.next ?_ | refine WC.block ?_ | refine WC.skip ?_ | refine WC.exit ?_ | refine WE.pass ?_ | refine WE.hit ?_ | refine WE.miss rfl ?_ | refine WE.out ?_ | refine WC.condT rfl ?_ | refine WC.condF rfl ?_ | refine WC.ret ?_ | refine WE.passRet ?_ | refine WE.outRet ?_ | refine WL.wanted rfl rfl rfl ?_
  refine WE.keep (xs := [.own 70 6 (v) (ys).length ((ys).flatMap fdC)]) (by repeat constructor) ?_
  first | refine WE.end0 rfl ?_ | refine WE.ret0 rfl ?_
  exact ⟨rfl, ys, rfl, by simpa using hp, hso⟩
set_option maxHeartbeats 2000000 in
theorem stable_ge (v : Value) (x1 x2 : List Fd) (n : Int) (w : World) (S : BSet) (hS : (sepL [.own 70 6 (v) (x1 ++ x2).length ((x1 ++ x2).flatMap fdC)]).sat S w) (h1 : OneV (x1 ++ x2)) (hx1 : x1.length = 20) (hx2 : x2.length ≤ 4) (hn : n = 20 + x2.length) :
    Tri Try.prog 59 #[v, i64 n, .func (.func 34) #[] #[]] w S fun u A => u = .tuple #[] ∧ ∃ ys : List Fd, A = [.own 70 6 (v) (ys).length ((ys).flatMap fdC)] ∧ ys.Perm (x1 ++ x2) ∧ ys.Pairwise kle := by
  refine Tri.enter (l := [v, i64 n, .func (.func 34) #[] #[]]) Try.func59 rfl Try.ntmps59 rfl [(0, v), (1, i64 n), (2, .func (.func 34) #[] #[])] (subA rfl) hS ?_
  repeat first
    | (apply WL.q; exact rfl; exact rfl; exact rfl; (first | (apply EvW.move; exact rfl) | (apply EvW.assign; exact rfl) | (apply EvW.cmpT; exact rfl; exact rfl; exact rfl; omega) | (apply EvW.cmpF; exact rfl; exact rfl; exact rfl; omega) | (apply EvW.cmp; exact rfl; exact rfl; exact rfl) | (apply EvW.arN; exact rfl; exact rfl; exact rfl; refine i64_in ?_ ?_ <;> omega) | (apply EvW.ar; exact rfl; exact rfl; exact rfl)))
    | refine WC.seq ?_ | refine WC.region ?_ | refine WL.nil ?_ | refine WE.next ?_ | refine WC.block ?_ | refine WC.skip ?_ | refine WC.exit ?_ | refine WE.pass ?_ | refine WE.hit ?_ | refine WE.miss rfl ?_ | refine WE.out ?_ | refine WC.condT rfl ?_ | refine WC.condF rfl ?_ | refine WC.ret ?_ | refine WE.passRet ?_ | refine WE.outRet ?_ | refine WL.wanted rfl rfl rfl ?_
  refine WC.loopK (σ := Nat × List Fd) [0, 1, 2, 6] (fun s => [(7, i64 (20 * s.1)), (8, i64 (20 * s.1 + 20))]) (fun s => [.own 70 6 (v) (s.2 ++ x2).length ((s.2 ++ x2).flatMap fdC)]) (fun s => (s.1 = 0 ∧ s.2 = x1) ∨ (s.1 = 1 ∧ s.2.Perm x1 ∧ s.2.Pairwise kle)) (fun s => 1 - s.1) (0, x1) (by (focus ((repeat (first | exact Pick.nil | (apply Pick.cons; exact rfl))); done))) (by (focus ((repeat (first | exact trivial | (refine ⟨rfl, ?_⟩))); done))) (fun _ h => h.keep (by repeat constructor)) (.inl ⟨rfl, rfl⟩) (fun s hs => ?_)
  obtain ⟨k, m1⟩ := s
  simp only [List.cons_append, List.nil_append] at hs ⊢
  rcases hs with ⟨rfl, rfl⟩ | ⟨rfl, hp1, hq1⟩
  · have hk : (20 : Int) * ((0 : Nat) : Int) + 20 ≤ n := by omega
    repeat first
      | (apply WL.q; exact rfl; exact rfl; exact rfl; (first | (apply EvW.move; exact rfl) | (apply EvW.assign; exact rfl) | (apply EvW.cmpT; exact rfl; exact rfl; exact rfl; omega) | (apply EvW.cmpF; exact rfl; exact rfl; exact rfl; omega) | (apply EvW.cmp; exact rfl; exact rfl; exact rfl) | (apply EvW.arN; exact rfl; exact rfl; exact rfl; refine i64_in ?_ ?_ <;> omega) | (apply EvW.ar; exact rfl; exact rfl; exact rfl)))
      | refine WC.seq ?_ | refine WC.region ?_ | refine WL.nil ?_ | refine WE.next ?_ | refine WC.block ?_ | refine WC.skip ?_ | refine WC.exit ?_ | refine WE.pass ?_ | refine WE.hit ?_ | refine WE.miss rfl ?_ | refine WE.out ?_ | refine WC.condT rfl ?_ | refine WC.condF rfl ?_ | refine WC.ret ?_ | refine WE.passRet ?_ | refine WE.outRet ?_ | refine WL.wanted rfl rfl rfl ?_
    rw [show m1 ++ x2 = [] ++ (m1 ++ x2) from rfl]
    try refine WL.wanted rfl rfl rfl ?_
    apply WL.callA ([.own 70 6 (v) ([] ++ (m1 ++ x2)).length (([] ++ (m1 ++ x2)).flatMap fdC)])
    · exact rfl
    · exact rfl
    · exact fun w => Try.call78 _ w
    · (focus ((repeat constructor); done))
    · exact fun w1 S1 hS1 hs1 ho1 => insert_spec v [] m1 x2 _ _ w1 S1 hS1 h1 (by simp only [List.length_append, List.length_nil]; omega) (by simp) (by simp only [List.length_nil]; omega)
    rintro _ _ ⟨rfl, m2, rfl, hp, hs⟩
    first | refine WL.app4 ?_ | refine WL.app3 ?_ | refine WL.app2 ?_ | refine WL.app1 ?_ | refine WL.app0 ?_ | skip
    rw [show ([] : List Fd) ++ (m2 ++ x2) = m2 ++ x2 from rfl]
    repeat first
      | (apply WL.q; exact rfl; exact rfl; exact rfl; (first | (apply EvW.move; exact rfl) | (apply EvW.assign; exact rfl) | (apply EvW.cmpT; exact rfl; exact rfl; exact rfl; omega) | (apply EvW.cmpF; exact rfl; exact rfl; exact rfl; omega) | (apply EvW.cmp; exact rfl; exact rfl; exact rfl) | (apply EvW.arN; exact rfl; exact rfl; exact rfl; refine i64_in ?_ ?_ <;> omega) | (apply EvW.ar; exact rfl; exact rfl; exact rfl)))
      | refine WC.seq ?_ | refine WC.region ?_ | refine WL.nil ?_ | refine WE.next ?_ | refine WC.block ?_ | refine WC.skip ?_ | refine WC.exit ?_ | refine WE.pass ?_ | refine WE.hit ?_ | refine WE.miss rfl ?_ | refine WE.out ?_ | refine WC.condT rfl ?_ | refine WC.condF rfl ?_ | refine WC.ret ?_ | refine WE.passRet ?_ | refine WE.outRet ?_ | refine WL.wanted rfl rfl rfl ?_
    rw [show (20 : Int) * ((0 : Nat) : Int) + 20 = 20 * ((1 : Nat) : Int) by omega]
    exact WE.again (s := ((0 : Nat), m1)) ((1, m2)) (.inr ⟨rfl, hp, hs⟩) (by (focus ((repeat (first | exact trivial | (refine ⟨rfl, ?_⟩))); done))) (fun _ h => (by (try simp only []); exact h.keep (by repeat constructor))) (by (try simp only []); omega)
  have hk : ¬ (20 : Int) * ((1 : Nat) : Int) + 20 ≤ n := by omega
  have hm1l := hp1.length_eq
  have hO1 : OneV m1 := h1.left.perm hp1
  repeat first
    | (apply WL.q; exact rfl; exact rfl; exact rfl; (first | (apply EvW.move; exact rfl) | (apply EvW.assign; exact rfl) | (apply EvW.cmpT; exact rfl; exact rfl; exact rfl; omega) | (apply EvW.cmpF; exact rfl; exact rfl; exact rfl; omega) | (apply EvW.cmp; exact rfl; exact rfl; exact rfl) | (apply EvW.arN; exact rfl; exact rfl; exact rfl; refine i64_in ?_ ?_ <;> omega) | (apply EvW.ar; exact rfl; exact rfl; exact rfl)))
    | refine WC.seq ?_ | refine WC.region ?_ | refine WL.nil ?_ | refine WE.next ?_ | refine WC.block ?_ | refine WC.skip ?_ | refine WC.exit ?_ | refine WE.pass ?_ | refine WE.hit ?_ | refine WE.miss rfl ?_ | refine WE.out ?_ | refine WC.condT rfl ?_ | refine WC.condF rfl ?_ | refine WC.ret ?_ | refine WE.passRet ?_ | refine WE.outRet ?_ | refine WL.wanted rfl rfl rfl ?_
  rw [show m1 ++ x2 = m1 ++ (x2 ++ []) by rw [List.append_nil]]
  try refine WL.wanted rfl rfl rfl ?_
  apply WL.callA ([.own 70 6 (v) (m1 ++ (x2 ++ [])).length ((m1 ++ (x2 ++ [])).flatMap fdC)])
  · exact rfl
  · exact rfl
  · exact fun w => Try.call78 _ w
  · (focus ((repeat constructor); done))
  · exact fun w1 S1 hS1 hs1 ho1 => insert_spec v m1 x2 [] _ _ w1 S1 hS1 (by rw [List.append_nil]; exact hO1.app h1.right) (by simp only [List.length_append, List.length_nil]; omega) (by omega) (by omega)
  rintro _ _ ⟨rfl, m2, rfl, hp2, hq2⟩
  first | refine WL.app4 ?_ | refine WL.app3 ?_ | refine WL.app2 ?_ | refine WL.app1 ?_ | refine WL.app0 ?_ | skip
  rw [show m1 ++ (m2 ++ []) = m1 ++ m2 by simp]
  have hm2l := hp2.length_eq
  have hO2 : OneV m2 := h1.right.perm hp2
  have hpp : (m1 ++ m2).Perm (x1 ++ x2) := hp1.append hp2
  repeat first
    | (apply WL.q; exact rfl; exact rfl; exact rfl; (first | (apply EvW.move; exact rfl) | (apply EvW.assign; exact rfl) | (apply EvW.cmpT; exact rfl; exact rfl; exact rfl; omega) | (apply EvW.cmpF; exact rfl; exact rfl; exact rfl; omega) | (apply EvW.cmp; exact rfl; exact rfl; exact rfl) | (apply EvW.arN; exact rfl; exact rfl; exact rfl; refine i64_in ?_ ?_ <;> omega) | (apply EvW.ar; exact rfl; exact rfl; exact rfl)))
    | refine WC.seq ?_ | refine WC.region ?_ | refine WL.nil ?_ | refine WE.next ?_ | refine WC.block ?_ | refine WC.skip ?_ | refine WC.exit ?_ | refine WE.pass ?_ | refine WE.hit ?_ | refine WE.miss rfl ?_ | refine WE.out ?_ | refine WC.condT rfl ?_ | refine WC.condF rfl ?_ | refine WC.ret ?_ | refine WE.passRet ?_ | refine WE.outRet ?_ | refine WL.wanted rfl rfl rfl ?_
  refine WC.loopK (σ := Nat × List Fd) [0, 1, 2] (fun s => [(6, i64 (20 * (s.1 + 1)))]) (fun s => [.own 70 6 (v) (s.2).length ((s.2).flatMap fdC)]) (fun s => (s.1 = 0 ∧ s.2 = m1 ++ m2) ∨ (s.1 = 1 ∧ s.2.Perm (x1 ++ x2) ∧ s.2.Pairwise kle)) (fun s => 1 - s.1) (0, m1 ++ m2) (by (focus ((repeat (first | exact Pick.nil | (apply Pick.cons; exact rfl))); done))) (by (focus ((repeat (first | exact trivial | (refine ⟨rfl, ?_⟩))); done))) (fun _ h => h.keep (by repeat constructor)) (.inl ⟨rfl, rfl⟩) (fun s hs => ?_)
  obtain ⟨k, ys⟩ := s
  simp only [List.cons_append, List.nil_append] at hs ⊢
  rcases hs with ⟨rfl, rfl⟩ | ⟨rfl, hp, hs⟩
  · by_cases hn20 : n = 20
    · have hk2 : ¬ (20 : Int) * (((0 : Nat) : Int) + 1) < n := by omega
      have hm20 : m2 = [] := List.length_eq_zero_iff.1 (by omega)
      repeat first
        | (apply WL.q; exact rfl; exact rfl; exact rfl; (first | (apply EvW.move; exact rfl) | (apply EvW.assign; exact rfl) | (apply EvW.cmpT; exact rfl; exact rfl; exact rfl; omega) | (apply EvW.cmpF; exact rfl; exact rfl; exact rfl; omega) | (apply EvW.cmp; exact rfl; exact rfl; exact rfl) | (apply EvW.arN; exact rfl; exact rfl; exact rfl; refine i64_in ?_ ?_ <;> omega) | (apply EvW.ar; exact rfl; exact rfl; exact rfl)))
        | refine WC.seq ?_ | refine WC.region ?_ | refine WL.nil ?_ | refine WE.next ?_ | refine WC.block ?_ | refine WC.skip ?_ | refine WC.exit ?_ | refine WE.pass ?_ | refine WE.hit ?_ | refine WE.miss rfl ?_ | refine WE.out ?_ | refine WC.condT rfl ?_ | refine WC.condF rfl ?_ | refine WC.ret ?_ | refine WE.passRet ?_ | refine WE.outRet ?_ | refine WL.wanted rfl rfl rfl ?_
      refine WE.keep (xs := [.own 70 6 (v) (m1 ++ m2).length ((m1 ++ m2).flatMap fdC)]) (by repeat constructor) ?_
      first | refine WE.end0 rfl ?_ | refine WE.ret0 rfl ?_
      exact ⟨rfl, _, rfl, hpp, by rw [hm20, List.append_nil]; exact hq1⟩
    · have hk2 : (20 : Int) * (((0 : Nat) : Int) + 1) < n := by omega
      repeat first
        | (apply WL.q; exact rfl; exact rfl; exact rfl; (first | (apply EvW.move; exact rfl) | (apply EvW.assign; exact rfl) | (apply EvW.cmpT; exact rfl; exact rfl; exact rfl; omega) | (apply EvW.cmpF; exact rfl; exact rfl; exact rfl; omega) | (apply EvW.cmp; exact rfl; exact rfl; exact rfl) | (apply EvW.arN; exact rfl; exact rfl; exact rfl; refine i64_in ?_ ?_ <;> omega) | (apply EvW.ar; exact rfl; exact rfl; exact rfl)))
        | refine WC.seq ?_ | refine WC.region ?_ | refine WL.nil ?_ | refine WE.next ?_ | refine WC.block ?_ | refine WC.skip ?_ | refine WC.exit ?_ | refine WE.pass ?_ | refine WE.hit ?_ | refine WE.miss rfl ?_ | refine WE.out ?_ | refine WC.condT rfl ?_ | refine WC.condF rfl ?_ | refine WC.ret ?_ | refine WE.passRet ?_ | refine WE.outRet ?_ | refine WL.wanted rfl rfl rfl ?_
      refine WC.loopK (σ := Nat) [0, 1, 2, 6] (fun s => [(7, i64 0), (8, i64 40)]) (fun s => [.own 70 6 (v) (m1 ++ m2).length ((m1 ++ m2).flatMap fdC)]) (fun s => s = 0) (fun s => s) 0 (by (focus ((repeat (first | exact Pick.nil | (apply Pick.cons; exact rfl))); done))) (by (focus ((repeat (first | exact trivial | (refine ⟨rfl, ?_⟩))); done))) (fun _ h => h.keep (by repeat constructor)) rfl (fun s hs => ?_)
      obtain ⟨k2, rfl⟩ : ∃ q, q = s := ⟨s, rfl⟩
      simp only [List.cons_append, List.nil_append] at hs ⊢
      have hk3 : ¬ (40 : Int) ≤ n := by omega
      repeat first
        | (apply WL.q; exact rfl; exact rfl; exact rfl; (first | (apply EvW.move; exact rfl) | (apply EvW.assign; exact rfl) | (apply EvW.cmpT; exact rfl; exact rfl; exact rfl; omega) | (apply EvW.cmpF; exact rfl; exact rfl; exact rfl; omega) | (apply EvW.cmp; exact rfl; exact rfl; exact rfl) | (apply EvW.arN; exact rfl; exact rfl; exact rfl; refine i64_in ?_ ?_ <;> omega) | (apply EvW.ar; exact rfl; exact rfl; exact rfl)))
        | refine WC.seq ?_ | refine WC.region ?_ | refine WL.nil ?_ | refine WE.next ?_ | refine WC.block ?_ | refine WC.skip ?_ | refine WC.exit ?_ | refine WE.pass ?_ | refine WE.hit ?_ | refine WE.miss rfl ?_ | refine WE.out ?_ | refine WC.condT rfl ?_ | refine WC.condF rfl ?_ | refine WC.ret ?_ | refine WE.passRet ?_ | refine WE.outRet ?_ | refine WL.wanted rfl rfl rfl ?_
      rw [show m1 ++ m2 = [] ++ (m1 ++ (m2 ++ [])) by rw [List.append_nil]; rfl]
      try refine WL.wanted rfl rfl rfl ?_
      apply WL.callA ([.own 70 6 (v) ([] ++ (m1 ++ (m2 ++ []))).length (([] ++ (m1 ++ (m2 ++ []))).flatMap fdC)])
      · exact rfl
      · exact rfl
      · exact fun w => Try.call79 _ w
      · (focus ((repeat constructor); done))
      · exact fun w1 S1 hS1 hs1 ho1 => symMerge_all 24 v [] m1 m2 [] _ _ _ w1 S1 hS1 (by rw [List.append_nil]; exact hO1.app hO2) (by simp only [List.length_append, List.length_nil]; omega) hq1 hq2 (List.ne_nil_of_length_pos (by omega)) (List.ne_nil_of_length_pos (by omega)) (by omega) (by simp) (by simp only [List.length_nil]; omega) (by simp only [List.length_nil]; omega)
      rintro _ _ ⟨rfl, m3, rfl, hp3, hs3⟩
      first | refine WL.app4 ?_ | refine WL.app3 ?_ | refine WL.app2 ?_ | refine WL.app1 ?_ | refine WL.app0 ?_ | skip
      rw [show ([] : List Fd) ++ (m3 ++ []) = m3 by simp]
      repeat first
        | (apply WL.q; exact rfl; exact rfl; exact rfl; (first | (apply EvW.move; exact rfl) | (apply EvW.assign; exact rfl) | (apply EvW.cmpT; exact rfl; exact rfl; exact rfl; omega) | (apply EvW.cmpF; exact rfl; exact rfl; exact rfl; omega) | (apply EvW.cmp; exact rfl; exact rfl; exact rfl) | (apply EvW.arN; exact rfl; exact rfl; exact rfl; refine i64_in ?_ ?_ <;> omega) | (apply EvW.ar; exact rfl; exact rfl; exact rfl)))
        | refine WC.seq ?_ | refine WC.region ?_ | refine WL.nil ?_ | refine WE.next ?_ | refine WC.block ?_ | refine WC.skip ?_ | refine WC.exit ?_ | refine WE.pass ?_ | refine WE.hit ?_ | refine WE.miss rfl ?_ | refine WE.out ?_ | refine WC.condT rfl ?_ | refine WC.condF rfl ?_ | refine WC.ret ?_ | refine WE.passRet ?_ | refine WE.outRet ?_ | refine WL.wanted rfl rfl rfl ?_
      exact WE.again (s := ((0 : Nat), m1 ++ m2)) ((1, m3)) (.inr ⟨rfl, hp3.trans hpp, hs3⟩) (by (focus ((repeat (first | exact trivial | (refine ⟨rfl, ?_⟩))); done))) (fun _ h => (by (try simp only []); exact h.keep (by repeat constructor))) (by (try simp only []); omega)
  have hk2 : ¬ (20 : Int) * (((1 : Nat) : Int) + 1) < n := by omega
  repeat first
    | (apply WL.q; exact rfl; exact rfl; exact rfl; (first | (apply EvW.move; exact rfl) | (apply EvW.assign; exact rfl) | (apply EvW.cmpT; exact rfl; exact rfl; exact rfl; omega) | (apply EvW.cmpF; exact rfl; exact rfl; exact rfl; omega) | (apply EvW.cmp; exact rfl; exact rfl; exact rfl) | (apply EvW.arN; exact rfl; exact rfl; exact rfl; refine i64_in ?_ ?_ <;> omega) | (apply EvW.ar; exact rfl; exact rfl; exact rfl)))
    | refine WC.seq ?_ | refine WC.region ?_ | refine WL.nil ?_ | refine WE.next ?_ | refine WC.block ?_ | refine WC.skip ?_ | refine WC.exit ?_ | refine WE.pass ?_ | refine WE.hit ?_ | refine WE.miss rfl ?_ | refine WE.out ?_ | refine WC.condT rfl ?_ | refine WC.condF rfl ?_ | refine WC.ret ?_ | refine WE.passRet ?_ | refine WE.outRet ?_ | refine WL.wanted rfl rfl rfl ?_
  refine WE.keep (xs := [.own 70 6 (v) (ys).length ((ys).flatMap fdC)]) (by repeat constructor) ?_
  first | refine WE.end0 rfl ?_ | refine WE.ret0 rfl ?_
  exact ⟨rfl, _, rfl, hp, hs⟩
/-- The pages found, in the order of their first numbers. -/
theorem sort_spec (v : Value) (xs : List Fd) (w : World) (S : BSet) (hS : (sepL [.own 70 6 (v) (xs).length ((xs).flatMap fdC)]).sat S w) (h1 : OneV xs) (hn : xs.length ≤ 24) :
    Tri Try.prog 33 #[v, .func (.func 34) #[] #[]] w S fun u A => u = .tuple #[] ∧ ∃ ys : List Fd, A = [.own 70 6 (v) (ys).length ((ys).flatMap fdC)] ∧ ys.Perm xs ∧ ys.Pairwise kle := by
  refine Tri.enter (l := [v, .func (.func 34) #[] #[]]) Try.func33 rfl Try.ntmps33 rfl [(0, v), (1, .func (.func 34) #[] #[])] (subA rfl) hS ?_
  by_cases hlt : (xs.length : Int) < 20
  · repeat first
      | (apply WL.q; exact rfl; exact rfl; exact rfl; (first | (apply EvW.move; exact rfl) | (apply EvW.lenL; exact rfl; exact UndC.eq) | (apply EvW.lenRow; exact rfl; exact UndC.eq; assumption) | (apply EvW.lenOwn; exact rfl; exact UndC.eq; (focus ((repeat constructor); done)))))
      | refine WC.seq ?_ | refine WC.region ?_ | refine WL.nil ?_ | refine WE.next ?_ | refine WC.skip ?_ | refine WC.exit ?_ | refine WE.pass ?_ | refine WE.hit ?_ | refine WE.miss rfl ?_ | refine WE.out ?_ | refine WC.ret ?_ | refine WE.passRet ?_ | refine WE.outRet ?_ | refine WL.wanted rfl rfl rfl ?_
    try refine WL.wanted rfl rfl rfl ?_
    apply WL.callA ([.own 70 6 (v) (xs).length ((xs).flatMap fdC)])
    · exact rfl
    · exact rfl
    · exact fun w => Try.call59 _ w
    · (focus ((repeat constructor); done))
    · exact fun w1 S1 hS1 hs1 ho1 => stable_lt v xs xs.length w1 S1 hS1 h1 rfl hlt
    rintro _ _ ⟨rfl, ys, rfl, hp, hs⟩
    first | refine WL.app4 ?_ | refine WL.app3 ?_ | refine WL.app2 ?_ | refine WL.app1 ?_ | refine WL.app0 ?_ | skip
    repeat first
      | (apply WL.q; exact rfl; exact rfl; exact rfl; (first | (apply EvW.move; exact rfl) | (apply EvW.lenL; exact rfl; exact UndC.eq) | (apply EvW.lenRow; exact rfl; exact UndC.eq; assumption) | (apply EvW.lenOwn; exact rfl; exact UndC.eq; (focus ((repeat constructor); done)))))
      | refine WC.seq ?_ | refine WC.region ?_ | refine WL.nil ?_ | refine WE.next ?_ | refine WC.skip ?_ | refine WC.exit ?_ | refine WE.pass ?_ | refine WE.hit ?_ | refine WE.miss rfl ?_ | refine WE.out ?_ | refine WC.ret ?_ | refine WE.passRet ?_ | refine WE.outRet ?_ | refine WL.wanted rfl rfl rfl ?_
    refine WE.keep (xs := [.own 70 6 (v) (ys).length ((ys).flatMap fdC)]) (by repeat constructor) ?_
    first | refine WE.end0 rfl ?_ | refine WE.ret0 rfl ?_
    exact ⟨rfl, _, rfl, hp, hs⟩
  · have hl1 : (xs.take 20).length = 20 := by rw [List.length_take]; omega
    have hl2 : (xs.drop 20).length = xs.length - 20 := List.length_drop
    have hxx := List.take_append_drop 20 xs
    generalize xs.take 20 = x1 at hl1 hxx
    generalize xs.drop 20 = x2 at hl2 hxx
    subst hxx
    rw [List.length_append] at hn hlt hl2
    have hll : (x1 ++ x2).length = x1.length + x2.length := List.length_append
    repeat first
      | (apply WL.q; exact rfl; exact rfl; exact rfl; (first | (apply EvW.move; exact rfl) | (apply EvW.lenL; exact rfl; exact UndC.eq) | (apply EvW.lenRow; exact rfl; exact UndC.eq; assumption) | (apply EvW.lenOwn; exact rfl; exact UndC.eq; (focus ((repeat constructor); done)))))
      | refine WC.seq ?_ | refine WC.region ?_ | refine WL.nil ?_ | refine WE.next ?_ | refine WC.skip ?_ | refine WC.exit ?_ | refine WE.pass ?_ | refine WE.hit ?_ | refine WE.miss rfl ?_ | refine WE.out ?_ | refine WC.ret ?_ | refine WE.passRet ?_ | refine WE.outRet ?_ | refine WL.wanted rfl rfl rfl ?_
    try refine WL.wanted rfl rfl rfl ?_
    apply WL.callA ([.own 70 6 (v) (x1 ++ x2).length ((x1 ++ x2).flatMap fdC)])
    · exact rfl
    · exact rfl
    · exact fun w => Try.call59 _ w
    · (focus ((repeat constructor); done))
    · exact fun w1 S1 hS1 hs1 ho1 => stable_ge v x1 x2 _ w1 S1 hS1 h1 hl1 (by omega) (by omega)
    rintro _ _ ⟨rfl, ys, rfl, hp, hs⟩
    first | refine WL.app4 ?_ | refine WL.app3 ?_ | refine WL.app2 ?_ | refine WL.app1 ?_ | refine WL.app0 ?_ | skip
    repeat first
      | (apply WL.q; exact rfl; exact rfl; exact rfl; (first | (apply EvW.move; exact rfl) | (apply EvW.lenL; exact rfl; exact UndC.eq) | (apply EvW.lenRow; exact rfl; exact UndC.eq; assumption) | (apply EvW.lenOwn; exact rfl; exact UndC.eq; (focus ((repeat constructor); done)))))
      | refine WC.seq ?_ | refine WC.region ?_ | refine WL.nil ?_ | refine WE.next ?_ | refine WC.skip ?_ | refine WC.exit ?_ | refine WE.pass ?_ | refine WE.hit ?_ | refine WE.miss rfl ?_ | refine WE.out ?_ | refine WC.ret ?_ | refine WE.passRet ?_ | refine WE.outRet ?_ | refine WL.wanted rfl rfl rfl ?_
    refine WE.keep (xs := [.own 70 6 (v) (ys).length ((ys).flatMap fdC)]) (by repeat constructor) ?_
    first | refine WE.end0 rfl ?_ | refine WE.ret0 rfl ?_
    exact ⟨rfl, _, rfl, hp, hs⟩
end Go.Proofs.Ytknclcjmfgdphaa
namespace Go.Proofs.Ytknclcjmfgdphaa
open Go.RowKit Go.BK
theorem sepL_perm {A B : List HP} (h : A.Perm B) : ∀ {S : BSet} {w : World}, (sepL A).sat S w → (sepL B).sat S w := by
  induction h with
  | nil => intro S w h; exact h
  | cons x _ ih => intro S w h; exact star_mono h (fun _ h => h) fun _ h => ih h
  | swap x y l => intro S w h; exact star_swap h
  | trans _ _ ih1 ih2 => intro S w h; exact ih2 (ih1 h)
theorem perm_map_inv {α β : Type} (f : α → β) {ys xs : List β} (h : ys.Perm xs) : ∀ zs : List α, xs = zs.map f → ∃ zs' : List α, zs'.Perm zs ∧ ys = zs'.map f := by
  induction h with
  | nil => intro zs e; exact ⟨[], by rw [List.map_eq_nil_iff.1 e.symm], rfl⟩
  | cons x _ ih =>
    intro zs e
    cases zs with
    | nil => cases e
    | cons z zs =>
      rw [List.map_cons] at e
      injection e with e1 e2
      obtain ⟨zs', h1, h2⟩ := ih zs e2
      exact ⟨z :: zs', h1.cons z, by rw [h2, e1]; rfl⟩
  | swap x y l =>
    intro zs e
    match zs, e with
    | a :: b :: zs, e =>
      simp only [List.map_cons, List.cons.injEq] at e
      obtain ⟨rfl, rfl, rfl⟩ := e
      exact ⟨b :: a :: zs, List.Perm.swap _ _ _, rfl⟩
  | trans _ _ ih1 ih2 =>
    intro zs e
    obtain ⟨z2, h1, h2⟩ := ih2 zs e
    obtain ⟨z1, h3, h4⟩ := ih1 z2 h2
    exact ⟨z1, h3.trans h1, h4⟩
/-- The pages of a chain that stand below a number. -/
def below (L : List Lf) (p : Nat) : List Lf := L.filter fun l => decide (l.page < p)
theorem below_0 (L : List Lf) : below L 0 = [] := by
  unfold below
  rw [List.filter_eq_nil_iff]
  intro l _; simp
theorem below_all {L : List Lf} {p : Nat} (h : ∀ l ∈ L, l.page < p) : below L p = L := by
  unfold below
  rw [List.filter_eq_self]
  intro l hl; simp [h l hl]
theorem below_no {L : List Lf} {p : Nat} (h : p ∉ L.map (·.page)) : below L (p + 1) = below L p := by
  unfold below
  refine List.filter_congr fun l hl => ?_
  have : l.page ≠ p := fun e => h (e ▸ List.mem_map.2 ⟨l, hl, rfl⟩)
  simp only [decide_eq_decide]; omega
theorem below_yes : ∀ {L : List Lf} {l : Lf}, (L.map (·.page)).Nodup → l ∈ L → (below L (l.page + 1)).Perm (below L l.page ++ [l])
  | x :: L, l, hd, hm => by
    rw [List.map_cons, List.nodup_cons] at hd
    rcases List.mem_cons.1 hm with rfl | hm
    · have h1 := below_no (L := L) hd.1
      have e1 : below (l :: L) (l.page + 1) = l :: below L (l.page + 1) := by unfold below; rw [List.filter_cons_of_pos (by simp)]
      have e2 : below (l :: L) l.page = below L l.page := by unfold below; rw [List.filter_cons_of_neg (by simp)]
      rw [e1, e2, h1]
      exact (List.perm_append_singleton l _).symm
    · have ih := below_yes hd.2 hm
      have hne : x.page ≠ l.page := fun e => hd.1 (e ▸ List.mem_map.2 ⟨l, hm, rfl⟩)
      by_cases hx : x.page < l.page
      · have e1 : below (x :: L) (l.page + 1) = x :: below L (l.page + 1) := by unfold below; rw [List.filter_cons_of_pos (by simp; omega)]
        have e2 : below (x :: L) l.page = x :: below L l.page := by unfold below; rw [List.filter_cons_of_pos (by simp; omega)]
        rw [e1, e2]
        exact ih.cons x
      · have e1 : below (x :: L) (l.page + 1) = below L (l.page + 1) := by unfold below; rw [List.filter_cons_of_neg (by simp; omega)]
        have e2 : below (x :: L) l.page = below L l.page := by unfold below; rw [List.filter_cons_of_neg (by simp; omega)]
        rw [e1, e2]
        exact ih
theorem nodup_few : ∀ (n : Nat) (l : List Nat), l.Nodup → (∀ x ∈ l, x < n) → l.length ≤ n
  | 0, [], _, _ => Nat.le_refl _
  | 0, x :: l, _, h => absurd (h x (by simp)) (Nat.not_lt_zero _)
  | n + 1, l, hd, h => by
    by_cases hm : n ∈ l
    · have h1 := nodup_few n (l.erase n) (hd.erase n) fun x hx => by
        have h2 := (List.Nodup.mem_erase_iff hd).1 hx
        have := h x h2.2
        have := h2.1
        omega
      rw [List.length_erase_of_mem hm] at h1
      omega
    · have := nodup_few n l hd fun x hx => by
        have h1 := h x hx
        have : x ≠ n := fun e => hm (e ▸ hx)
        omega
      omega
/-- Pages are few. -/
theorem few_pages {L : List Lf} (hd : (L.map (·.page)).Nodup) (h : ∀ l ∈ L, l.page < 24) : L.length ≤ 24 := by
  have := nodup_few 24 _ hd fun x hx => by
    obtain ⟨l, hl, rfl⟩ := List.mem_map.1 hx
    exact h l hl
  rwa [List.length_map] at this
/-- A page's place in the order. -/
def kleL (a b : Lf) : Prop := a.first < b.first ∨ (a.first = b.first ∧ a.n ≤ b.n)
theorem Chain.sorted : ∀ {L : List Lf} {b e : Nat}, Chain b L e → L.Pairwise kleL
  | [], _, _, _ => List.Pairwise.nil
  | x :: r, b, e, h => by
    have h1 := h.1
    have h2 := Chain.le h.2
    refine List.pairwise_cons.2 ⟨fun y hy => ?_, Chain.sorted h.2⟩
    have h3 := (h2.2 y hy).1
    unfold kleL
    by_cases hn : x.n = 0
    · by_cases h4 : x.first < y.first
      · exact .inl h4
      · exact .inr ⟨by omega, by omega⟩
    · exact .inl (by omega)
def keyL (l : Lf) : Nat × Nat := (l.first, l.n)
theorem Chain.ofKeys : ∀ {L L' : List Lf} {b e : Nat}, L.map keyL = L'.map keyL → Chain b L e → Chain b L' e
  | [], [], _, _, _, h => h
  | [], _ :: _, _, _, hk, _ => by cases hk
  | _ :: _, [], _, _, hk, _ => by cases hk
  | x :: r, y :: r', b, e, hk, h => by
    simp only [List.map_cons, List.cons.injEq, keyL, Prod.mk.injEq] at hk
    exact ⟨by rw [← hk.1.1]; exact h.1, by rw [← hk.1.2]; exact Chain.ofKeys hk.2 h.2⟩
theorem Chain.resort {L L' : List Lf} {b e : Nat} (h : Chain b L e) (hp : L'.Perm L) (hs : L'.Pairwise kleL) : Chain b L' e := by
  refine h.ofKeys ?_
  have h1 : (L.map keyL).Pairwise fun a b => a.1 < b.1 ∨ (a.1 = b.1 ∧ a.2 ≤ b.2) := List.pairwise_map.2 h.sorted
  have h2 : (L'.map keyL).Pairwise fun a b => a.1 < b.1 ∨ (a.1 = b.1 ∧ a.2 ≤ b.2) := List.pairwise_map.2 hs
  refine List.Perm.eq_of_pairwise ?_ h1 h2 (hp.symm.map keyL)
  intro a b _ _ h3 h4
  exact Prod.ext (by omega) (by omega)
theorem MInv.perm {pg : Nat → Txt} {all : List Rec} {L L' : List Lf} (h : MInv pg all L) (hp : L'.Perm L) (hs : L'.Pairwise kleL) : MInv pg all L' := by
  obtain ⟨b, hc, hb⟩ := h.chain
  exact ⟨(hp.map (·.page)).nodup_iff.2 h.nodup, fun l hl => h.lt l (hp.mem_iff.1 hl), ⟨b, hc.resort hp hs, hb⟩, fun l hl => h.leaf l (hp.mem_iff.1 hl), fun p hp2 hn => h.rest p hp2 fun hm => hn ((hp.map (·.page)).mem_iff.2 hm), h.len, h.ok, h.few⟩
/-- What a page of the chain tells. -/
def fdOf (all : List Rec) (z : Lf × Value) : Fd := ⟨z.1.page, z.1.first, z.1.n, (safeOf (all.take (z.1.first - 1))).1, (safeOf (all.take (z.1.first - 1))).2, z.2⟩
theorem kle_of {all : List Rec} {a b : Lf × Value} : kle (fdOf all a) (fdOf all b) ↔ kleL a.1 b.1 := by
  unfold kle kleL fdOf
  simp only []
  omega
end Go.Proofs.Ytknclcjmfgdphaa
namespace Go.BK
open Go.RowKit
section
variable {P : Program} {w0 : World} {S0 : BSet} {n : Nat} {F : Fr} {A r L : List HP} {ops : Array Oper} {Q : Exit → Act → World → Prop} {rest : List Oper} {α : Type} {f : α → HP} {φ : Prop}
theorem St.pureH {w : World} (ht : Take (.pure φ) A r) (h : St w0 S0 A w) : φ ∧ St w0 S0 r w := by
  refine ⟨?_, h.drop ht⟩
  obtain ⟨S, h⟩ := h.take ht
  exact h.2
theorem WL.pureH (ht : Take (.pure φ) A r) (kk : φ → WL P w0 S0 n ops Q rest F r) : WL P w0 S0 n ops Q rest F A :=
  ⟨fun a w ha hs => by obtain ⟨x, hx⟩ := hs.pureH ht; exact (kk x).go a w ha hx⟩
theorem WC.pureH {c : Code} (ht : Take (.pure φ) A r) (kk : φ → WC P w0 S0 n c Q F r) : WC P w0 S0 n c Q F A :=
  ⟨fun a w ha hs => by obtain ⟨x, hx⟩ := hs.pureH ht; exact (kk x).go a w ha hx⟩
theorem WE.pureH {e : Exit} (ht : Take (.pure φ) A r) (kk : φ → WE w0 S0 n Q e F r) : WE w0 S0 n Q e F A :=
  ⟨fun a w ha hs => by obtain ⟨x, hx⟩ := hs.pureH ht; exact (kk x).go a w ha hx⟩
theorem Sees.ex {w : World} {S : BSet} (h : Sees w S (.ex f)) : ∃ a, Sees w S (f a) := by
  obtain ⟨R, ⟨a, h1⟩, h2⟩ := h
  exact ⟨a, R, h1, h2⟩
theorem WC.outL {c : Code} {L' : List HP} {z : HP} (ht : Take (sepL L) A r) (hz : Take z L L') (kk : WC P w0 S0 n c Q F (z :: sepL L' :: r)) : WC P w0 S0 n c Q F A := kk.conv fun _ hs => St.out ht hz hs
theorem St.backL {w : World} {L' : List HP} {z : HP} {A1 : List HP} (h1 : Take z A A1) (h2 : Take (sepL L') A1 r) (hz : Take z L L') (h : St w0 S0 A w) : St w0 S0 (sepL L :: r) w :=
  h.mono fun S w hs => star_mono (star_assoc' (star_mono (h1.star hs) (fun _ h => h) fun _ h => h2.star h)) (fun _ h => hz.unstar h) fun _ h => h
theorem WL.backL {L' : List HP} {z : HP} {A1 : List HP} (h1 : Take z A A1) (h2 : Take (sepL L') A1 r) (hz : Take z L L') (kk : WL P w0 S0 n ops Q rest F (sepL L :: r)) : WL P w0 S0 n ops Q rest F A := kk.conv fun _ hs => St.backL h1 h2 hz hs
end
end Go.BK
namespace Go.Proofs.Ytknclcjmfgdphaa
open Go.RowKit Go.BK
def pgM (m : Mem) : Nat → Txt := fun p => m.pages.getD p []
/-- The records of a page of the chain. -/
def recH (all : List Rec) (z : Lf × Value) : HP := .own 34 3 (z.2) (numd z.1.first (seg all z.1.first z.1.n)).length ((numd z.1.first (seg all z.1.first z.1.n)).flatMap recC)
theorem read_page {m : Mem} {K : Nat} (hm : m.wf K) (hoff : m.off = false) {p : Nat} (hp : p < 24) : m.read (p : Int) 0 4096 = (pgM m p, 0) := by
  have hpl : m.place (p : Int) 0 = 0 := by unfold Mem.place; rw [hoff, if_neg (by decide), if_neg (by omega)]
  have hl := hm.p p hp
  unfold Mem.read
  rw [if_neg (by rw [hpl]; decide), if_neg (by decide)]
  unfold pgM Mem.page
  rw [show ((p : Nat) : Int).toNat = p from rfl, show ((0 : Int) + 4096).toNat = 4096 from rfl, show (0 : Int).toNat = 0 from rfl, List.drop_zero, List.take_of_length_le (by omega)]
set_option maxHeartbeats 1000000 in
theorem pages_spec (b : Nat) (o : Option Nat) (m : Mem) (K : Nat) (all : List Rec) (L : List Lf) (w : World) (S : BSet) (hS : (sepL [.blk b (Value.map (o) :: i64 (m).ar :: i64 (m).ac :: Value.bool (m).off :: ((m).pages.map str ++ (m).worn.map i64)).toArray 61]).sat S w) (hm : m.wf K) (hoff : m.off = false) (hI : MInv (pgM m) all L) :
    Tri Try.prog 20 #[ptr b 0] w S fun u A => ∃ (v : Value) (zs : List (Lf × Value)), u = .tuple #[v, i64 0] ∧ A = [.blk b (Value.map (o) :: i64 (m).ar :: i64 (m).ac :: Value.bool (m).off :: ((m).pages.map str ++ (m).worn.map i64)).toArray 61, .own 70 6 (v) (zs.map (fdOf all)).length ((zs.map (fdOf all)).flatMap fdC), sepL (zs.map (recH all))] ∧ (zs.map (·.1)).Perm L ∧ (zs.map (·.1)).Pairwise kleL ∧ OneV (zs.map (fdOf all)) := by
  refine Tri.enter (l := [ptr b 0]) Try.func20 rfl Try.ntmps20 rfl [(0, ptr b 0)] (subA rfl) hS ?_
  have hfew := few_pages hI.nodup hI.lt
  repeat first
    | (apply WL.q; exact rfl; exact rfl; exact rfl; (first | (apply EvW.move; exact rfl) | (apply EvW.assign; exact rfl)))
    | refine WC.seq ?_ | refine WC.region ?_ | refine WL.nil ?_ | refine WE.next ?_ | refine WC.block ?_
  refine WC.noneL ?_
  refine WC.conv (fun _ hs => hs.ownNil (e := 70) (sz := 6)) ?_
  refine WC.loopK (σ := Nat × List (Lf × Value) × Value) [0] (fun s => [(10, i64 s.1), (4, s.2.2)]) (fun s => [.blk b (Value.map (o) :: i64 (m).ar :: i64 (m).ac :: Value.bool (m).off :: ((m).pages.map str ++ (m).worn.map i64)).toArray 61, .own 70 6 (s.2.2) (s.2.1.map (fdOf all)).length ((s.2.1.map (fdOf all)).flatMap fdC), sepL (s.2.1.map (recH all))]) (fun s => s.1 ≤ 24 ∧ (s.2.1.map (·.1)).Perm (below L s.1) ∧ OneV (s.2.1.map (fdOf all))) (fun s => 24 - s.1) (0, [], .slice none 0 0) (by (focus ((repeat (first | exact Pick.nil | (apply Pick.cons; exact rfl))); done))) (by (focus ((repeat (first | exact trivial | (refine ⟨rfl, ?_⟩))); done))) (fun _ h => h.keep (by repeat constructor)) ⟨Nat.zero_le _, by rw [below_0]; exact List.Perm.refl _, fun f hf => by cases hf⟩ (fun s hs => ?_)
  obtain ⟨p, zs, v⟩ := s
  simp only [List.cons_append, List.nil_append] at hs ⊢
  obtain ⟨hp0, hperm, hone⟩ := hs
  by_cases hlt : (p : Int) < 24
  · have hp : p < 24 := by omega
    have hrp := read_page hm hoff hp
    have hpl : (pgM m p).length = 4096 := hI.len p hp
    repeat first
      | (apply WL.q; exact rfl; exact rfl; exact rfl; (first | (apply EvW.move; exact rfl) | (apply EvW.assign; exact rfl) | (apply EvW.cmpT; exact rfl; exact rfl; exact rfl; omega)))
      | refine WC.seq ?_ | refine WC.region ?_ | refine WL.nil ?_ | refine WE.next ?_ | refine WC.block ?_ | refine WC.skip ?_ | refine WC.condT rfl ?_
    try refine WL.wanted rfl rfl rfl ?_
    apply WL.callA ([.blk b (Value.map (o) :: i64 (m).ar :: i64 (m).ac :: Value.bool (m).off :: ((m).pages.map str ++ (m).worn.map i64)).toArray 61])
    · exact rfl
    · exact rfl
    · exact fun w => Try.call31 _ w
    · (focus ((repeat constructor); done))
    · exact fun w1 S1 hS1 hs1 ho1 => m7read_spec b o m K p 0 4096 w1 S1 hS1 hm
    rintro _ _ ⟨rfl, rfl⟩
    first | refine WL.app4 ?_ | refine WL.app3 ?_ | refine WL.app2 ?_ | refine WL.app1 ?_ | refine WL.app0 ?_ | skip
    rw [hrp]
    dsimp only
    repeat first
      | (apply WL.q; exact rfl; exact rfl; exact rfl; (first | (apply EvW.move; exact rfl) | (apply EvW.assign; exact rfl) | (apply EvW.extract; exact rfl; exact rfl) | (apply EvW.cmpF; exact rfl; exact rfl; exact rfl; omega)))
      | refine WC.seq ?_ | refine WC.region ?_ | refine WL.nil ?_ | refine WE.next ?_ | refine WC.skip ?_ | refine WC.condF rfl ?_
    by_cases hin : p ∈ L.map (·.page)
    · obtain ⟨l, hl, hlp⟩ := List.mem_map.1 hin
      have hla := hI.leaf l hl
      rw [hlp] at hla
      have hsl := seg_len hla.le
      have hzl : zs.length < 24 := by
        have h1 := hperm.length_eq
        have h2 := below_yes hI.nodup hl
        have h3 := h2.length_eq
        rw [hlp, List.length_append, List.length_singleton] at h3
        have h4 : (below L (p + 1)).length ≤ L.length := List.length_filter_le _ _
        rw [List.length_map] at h1
        omega
      try refine WL.wanted rfl rfl rfl ?_
      apply WL.callA ([])
      · exact rfl
      · exact rfl
      · exact fun w => Try.call32 _ w
      · (focus ((repeat constructor); done))
      · exact fun w1 S1 hS1 hs1 ho1 => scan_yes p (pgM m p) l.first (safeOf (all.take (l.first - 1))) (seg all l.first l.n) w1 S1 hS1 hla.on
      rintro _ _ ⟨v1, rfl, rfl⟩
      first | refine WL.app4 ?_ | refine WL.app3 ?_ | refine WL.app2 ?_ | refine WL.app1 ?_ | refine WL.app0 ?_ | skip
      rw [hsl, show (p : Int) = (l.page : Int) by omega]
      (first | refine WL.slOwn (v := v1) (by repeat constructor) ?_ | refine WC.slOwn (v := v1) (by repeat constructor) ?_)
      intro hc_v1 ho_v1
      repeat first
        | (apply WL.q; exact rfl; exact rfl; exact rfl; (first | (apply EvW.move; exact rfl) | (apply EvW.extract; exact rfl; exact rfl)))
      try refine WL.wanted rfl rfl rfl ?_
      (apply WL.alloc; exact rfl; exact ZvC.eq; exact rfl; intro fb)
      repeat first
        | (apply WL.q; exact rfl; exact rfl; exact rfl; (first | (apply EvW.move; exact rfl) | (apply EvW.assign; exact rfl) | (apply EvW.loadAgg; exact rfl; exact AggC.eq; exact SzC.eq; (focus ((repeat constructor); done)); (focus ((repeat (first | exact SubL.nil | apply SubL.cons | apply SubL.succ)); done)))))
        | refine WC.seq ?_ | refine WC.region ?_ | refine WL.nil ?_ | refine WE.next ?_ | refine WC.condT rfl ?_ | (apply WL.store; exact rfl; exact rfl; (first | assumption | exact rfl); exact SzC.eq; (first | assumption | exact rfl); (focus ((repeat constructor); done)))
      try refine WL.wanted rfl rfl rfl ?_
      (apply WL.buildSlice; exact rfl; exact UndC.eq; exact SzC.eq; exact ZvC.eq; exact rfl; exact rfl; exact rfl; ((focus ((repeat (first | exact Flat.nil | (apply Flat.one; (first | exact rfl | assumption)) | (apply Flat.cons; exact rfl; exact rfl))); done))); exact rfl; exact rfl; intro k0)
      have hv1 : v1.oneCell' = true := by simpa using ho_v1
      have hcc : (fdC (fdOf all (l, v1))).all (·.oneCell') = true := oneC hv1
      have hzml : (zs.map (fdOf all)).length = zs.length := List.length_map ..
      try refine WL.wanted rfl rfl rfl ?_
      (apply WL.append; exact rfl; exact rfl; exact rfl; exact UndC.eq; exact SzC.eq; exact ByC.eq; exact ZvC.eq; exact rfl; (first | exact notInt_sl UndC.eq | exact notInt_st UndC.eq); exact rfl; (focus ((repeat constructor); done)))
      · exact adds_blk .head rfl (by rw [List.append_nil]; exact hcc)
      · (omega)
      intro x1
      refine WL.ownEq (cs' := ((zs ++ [(l, v1)]).map (fdOf all)).flatMap fdC) (len' := ((zs ++ [(l, v1)]).map (fdOf all)).length) .head (by rw [List.length_map, List.length_map, List.length_append, List.length_singleton]) (by rw [List.map_append, List.flatMap_append]; rfl) ?_
      refine WL.backL (L := (zs ++ [(l, v1)]).map (recH all)) (L' := zs.map (recH all)) (z := recH all (l, v1)) (by repeat constructor) (by repeat constructor) (take_map_last (recH all) _ zs) ?_
      repeat first
        | (apply WL.q; exact rfl; exact rfl; exact rfl; (first | (apply EvW.move; exact rfl) | (apply EvW.assign; exact rfl) | (apply EvW.arN; exact rfl; exact rfl; exact rfl; refine i64_in ?_ ?_ <;> omega)))
        | refine WC.region ?_ | refine WL.nil ?_ | refine WE.next ?_ | refine WE.out ?_
      have hperm2 : ((zs ++ [(l, v1)]).map (·.1)).Perm (below L (p + 1)) := by
        have h2 := below_yes hI.nodup hl
        rw [hlp] at h2
        rw [List.map_append]
        exact (hperm.append_right _).trans h2.symm
      have hone2 : OneV ((zs ++ [(l, v1)]).map (fdOf all)) := by
        rw [List.map_append]
        exact hone.app fun f hf => by
          simp only [List.map_cons, List.map_nil, List.mem_singleton] at hf
          rw [hf]; exact hv1
      rw [show ((l.page : Nat) : Int) + 1 = ((p + 1 : Nat) : Int) by omega]
      exact WE.again (s := (p, zs, v)) ((p + 1, zs ++ [(l, v1)], x1)) ⟨by simp only []; omega, hperm2, hone2⟩ (by (focus ((repeat (first | exact trivial | (refine ⟨rfl, ?_⟩))); done))) (fun _ h => (by (try simp only []); exact h.keep (by repeat constructor))) (by (try simp only []); omega)
    · have hno := hI.rest p hp hin
      try refine WL.wanted rfl rfl rfl ?_
      apply WL.callA ([])
      · exact rfl
      · exact rfl
      · exact fun w => Try.call32 _ w
      · (focus ((repeat constructor); done))
      · exact fun w1 S1 hS1 hs1 ho1 => scan_no p (pgM m p) w1 S1 hS1 (by omega) hno
      rintro _ _ ⟨rfl, rfl⟩
      first | refine WL.app4 ?_ | refine WL.app3 ?_ | refine WL.app2 ?_ | refine WL.app1 ?_ | refine WL.app0 ?_ | skip
      repeat first
        | (apply WL.q; exact rfl; exact rfl; exact rfl; (first | (apply EvW.move; exact rfl) | (apply EvW.extract; exact rfl; exact rfl)))
      try refine WL.wanted rfl rfl rfl ?_
      (apply WL.alloc; exact rfl; exact ZvC.eq; exact rfl; intro fb)
      repeat first
        | (apply WL.q; exact rfl; exact rfl; exact rfl; (first | (apply EvW.move; exact rfl) | (apply EvW.assign; exact rfl) | (apply EvW.arN; exact rfl; exact rfl; exact rfl; refine i64_in ?_ ?_ <;> omega)))
        | refine WC.seq ?_ | refine WC.region ?_ | refine WL.nil ?_ | refine WE.next ?_ | refine WC.skip ?_ | refine WE.out ?_ | refine WC.condF rfl ?_ | (apply WL.store; exact rfl; exact rfl; (first | assumption | exact rfl); exact SzC.eq; (first | assumption | exact rfl); (focus ((repeat constructor); done)))
      exact WE.again (s := (p, zs, v)) ((p + 1, zs, v)) ⟨by simp only []; omega, by rw [below_no hin]; exact hperm, hone⟩ (by (focus ((repeat (first | exact trivial | (refine ⟨rfl, ?_⟩))); done))) (fun _ h => (by (try simp only []); exact h.keep (by repeat constructor))) (by (try simp only []); omega)
  have hp24 : p = 24 := by omega
  rw [hp24, below_all hI.lt] at hperm
  have hzl : (zs.map (fdOf all)).length ≤ 24 := by
    have h1 := hperm.length_eq
    rw [List.length_map] at h1 ⊢
    omega
  repeat first
    | (apply WL.q; exact rfl; exact rfl; exact rfl; (first | (apply EvW.move; exact rfl) | (apply EvW.cmpF; exact rfl; exact rfl; exact rfl; omega)))
    | refine WC.seq ?_ | refine WC.region ?_ | refine WL.nil ?_ | refine WE.next ?_ | refine WC.exit ?_ | refine WE.pass ?_ | refine WE.hit ?_ | refine WC.condF rfl ?_
  try refine WL.wanted rfl rfl rfl ?_
  apply WL.callA ([.own 70 6 (v) (zs.map (fdOf all)).length ((zs.map (fdOf all)).flatMap fdC)])
  · exact rfl
  · exact rfl
  · exact fun w => Try.call33 _ w
  · (focus ((repeat constructor); done))
  · exact fun w1 S1 hS1 hs1 ho1 => sort_spec v (zs.map (fdOf all)) w1 S1 hS1 hone hzl
  rintro _ _ ⟨rfl, ys, rfl, hp, hso⟩
  first | refine WL.app4 ?_ | refine WL.app3 ?_ | refine WL.app2 ?_ | refine WL.app1 ?_ | refine WL.app0 ?_ | skip
  obtain ⟨zs', hz1, rfl⟩ := perm_map_inv (fdOf all) hp zs rfl
  have hso2 : (zs'.map (·.1)).Pairwise kleL := by
    rw [List.pairwise_map] at hso ⊢
    exact hso.imp fun h => kle_of.1 h
  repeat first
    | (apply WL.q; exact rfl; exact rfl; exact rfl; (first | (apply EvW.move; exact rfl) | (apply EvW.assign; exact rfl)))
    | refine WC.seq ?_ | refine WC.region ?_ | refine WL.nil ?_ | refine WE.next ?_ | refine WC.ret ?_
  refine WE.keep (xs := [.blk b (Value.map (o) :: i64 (m).ar :: i64 (m).ac :: Value.bool (m).off :: ((m).pages.map str ++ (m).worn.map i64)).toArray 61, .own 70 6 (v) (zs'.map (fdOf all)).length ((zs'.map (fdOf all)).flatMap fdC), sepL (zs.map (recH all))]) (by repeat constructor) ?_
  refine WE.conv (A' := [.blk b (Value.map (o) :: i64 (m).ar :: i64 (m).ac :: Value.bool (m).off :: ((m).pages.map str ++ (m).worn.map i64)).toArray 61, .own 70 6 (v) (zs'.map (fdOf all)).length ((zs'.map (fdOf all)).flatMap fdC), sepL (zs'.map (recH all))]) (fun _ h => h.mono fun S w hs => star_mono hs (fun _ h => h) fun _ h => star_mono h (fun _ h => h) fun _ h => star_mono h (fun _ h => sepL_perm (hz1.symm.map _) h) fun _ h => h) ?_
  refine WE.retN (l := [2, 3]) rfl rfl rfl ?_
  exact ⟨v, zs', rfl, rfl, (hz1.map _).trans hperm, hso2, hone.perm hp⟩
end Go.Proofs.Ytknclcjmfgdphaa
namespace Go.BK
open Go.RowKit
section
variable {P : Program} {w0 : World} {S0 : BSet} {n : Nat} {F : Fr} {A A' r : List HP} {ops : Array Oper} {Q : Exit → Act → World → Prop} {rest : List Oper} {d : Nat} {T : TypeId} {pos : String} {af : Array Edge} {x y : Operand} {v : Value} {t ee e : TypeId} {dd : Option Tmp} {g : Option (Nat × Bool)} {sz len : Nat} {cs : List Value}
theorem EvW.sliceOwnLo {lo : Operand} {k1 : IntKind} {a : Int} (hx : ev F x = some v) (ht : Take (.own ee sz v len cs) A r) (hu : P.underlying t = some (.slice e)) (hz : szB P e = some sz) (hlo : ev F lo = some (.int k1 a)) (h0 : 0 ≤ a) (h1 : a ≤ len) :
    EvW P w0 S0 n F A ⟨dd, .slice t x (some lo) none none, T, pos, af, g⟩ (subSl sz a.toNat len v) :=
  .pure fun a' w ha hst => by
    obtain ⟨S, hS⟩ := hst.take ht
    obtain ⟨a, rfl⟩ := Int.eq_ofNat_of_zero_le h0
    rcases own_shape hS with ⟨h3, h4, _⟩ | ⟨b', cap, h3, h5⟩
    · subst h3; subst h4
      simp [execOp, ha.eval hx, ha.eval hlo, runSliceL (len := 0) (p := none) (w := w) (cap := 0) (lo := a) (hi := 0) (k2 := .i64) hu hz (by omega) (by omega) (.inl rfl) (.inr ⟨rfl, rfl⟩)]
    · subst h3
      simp [execOp, ha.eval hx, ha.eval hlo, runSliceL (len := len) (p := some ⟨b', 0, none⟩) (w := w) (cap := cap) (lo := a) (hi := len) (k2 := .i64) hu hz (by omega) (by omega) (.inl rfl) (.inr ⟨rfl, rfl⟩)]
theorem zeros_len (zs : Array Value) (k : Nat) : (Builtin.zeroCells zs k).toList.length = k * zs.size := by simp [Builtin.zeroCells]
theorem zeros_one (zs : Array Value) (k : Nat) (h : zs.toList.all (·.oneCell') = true) : (Builtin.zeroCells zs k).toList.all (·.oneCell') = true := by
  rw [List.all_eq_true] at h ⊢
  intro v hv
  simp only [Builtin.zeroCells, Array.toList_map, List.mem_map, Array.toList_range, List.mem_range] at hv
  obtain ⟨i, hi, rfl⟩ := hv
  have hs : 0 < zs.size := by
    rcases Nat.eq_zero_or_pos zs.size with h0 | h0
    · rw [h0, Nat.mul_zero] at hi; omega
    · exact h0
  have hm : i % zs.size < zs.size := Nat.mod_lt _ hs
  refine h _ ?_
  rw [getElem!_pos zs _ hm]
  exact Array.getElem_mem_toList hm
/-- The elements from i on are cleared. -/
theorem WL.clearOwn {i : Nat} {z : Value} (hx : ev F x = some (subSl sz i len v)) (ht : Take (.own ee sz v len cs) A r) (hi : i ≤ len) (hu : P.underlying t = some (.slice e)) (hz : zvB P e = some z) (hzs : z.cells.size = sz)
    (hone : z.cells.toList.all (·.oneCell') = true) (kk : ∀ cs' : List Value, cs'.take (i * sz) = cs.take (i * sz) → WL P w0 S0 n ops Q rest F (.own ee sz v len cs' :: r)) : WL P w0 S0 n ops Q (⟨none, .call ⟨.builtin .clear, #[x], #[t]⟩, T, pos, af, none⟩ :: rest) F A := by
  refine .step (fun a w ha hst K hK => ?_) rfl
  obtain ⟨S, hs1, hs2, hs3⟩ := id hst
  obtain ⟨S1, S2, hus, hd, ⟨hcl, h⟩, h5⟩ := ht.star hs1
  have hback : St w0 S0 (.own ee sz v len cs :: r) w := ⟨S, ⟨S1, S2, hus, hd, ⟨hcl, h⟩, h5⟩, hs2, hs3⟩
  rcases h with ⟨h3, h4, h6⟩ | ⟨b, cap, sp, h3, h4, h6, hS1, lo, hi', hh, hfr⟩
  · subst h3; subst h4
    obtain rfl : i = 0 := by omega
    have hrun : (execOp a.eval ⟨none, .call ⟨.builtin .clear, #[x], #[t]⟩, T, pos, af, none⟩).run P w = .ok (.value (.tuple #[])) w := by
      simp [execOp, resolve, invoke, builtin, ha.eval hx, subSl, Builtin.clear_, run_underlying hu, Result.andThen]
    unfold Oper.wp
    rw [hrun]
    exact hK _ _ ((kk cs rfl).go _ _ ha hback)
  · subst h3
    by_cases hil : i = len
    · subst hil
      have hrun : (execOp a.eval ⟨none, .call ⟨.builtin .clear, #[x], #[t]⟩, T, pos, af, none⟩).run P w = .ok (.value (.tuple #[])) w := by
        have e : subSl sz i i (.slice (some ⟨b, 0, none⟩) i cap) = .slice (if cap = i then some ⟨b, 0, none⟩ else (some (⟨b, 0, none⟩ : Addr)).map (·.add (i * sz))) 0 (cap - i) := by
          show Value.slice _ (i - i) _ = _
          rw [Nat.sub_self]
        rw [e] at hx
        cases hq : (if cap = i then some ⟨b, 0, none⟩ else (some (⟨b, 0, none⟩ : Addr)).map (·.add (i * sz))) with
        | none =>
          rw [hq] at hx
          simp [execOp, resolve, invoke, builtin, ha.eval hx, Builtin.clear_, run_underlying hu, Result.andThen]
        | some q =>
          rw [hq] at hx
          simp [execOp, resolve, invoke, builtin, ha.eval hx, Builtin.clear_, run_underlying hu, Result.andThen]
      unfold Oper.wp
      rw [hrun]
      exact hK _ _ ((kk cs rfl).go _ _ ha hback)
    · have hlt : i < len := by omega
      obtain ⟨m, hm⟩ : ∃ m, len - i = m + 1 := ⟨len - i - 1, by omega⟩
      have hzl := zeros_len z.cells (m + 1)
      have hzo := zeros_one z.cells (m + 1) hone
      rw [hzs] at hzl
      generalize hzc : (Builtin.zeroCells z.cells (m + 1)).toList = zc at hzl hzo
      have hcut : i * sz + zc.length ≤ cs.length := by
        rw [hzl, hcl, ← hm, ← Nat.add_mul]; exact Nat.mul_le_mul_right _ (by omega)
      have hle : (i * sz) + zc.length ≤ (cs ++ sp).length := by rw [List.length_append]; omega
      have e : subSl sz i len (.slice (some ⟨b, 0, none⟩) len cap) = .slice (some ⟨b, i * sz, none⟩) (m + 1) (cap - i) := by
        show Value.slice (if cap = i then _ else _) (len - i) _ = _
        rw [if_neg (by omega), hm]
        simp [Addr.add]
        exact fun h => h.symm
      rw [e] at hx
      have hz' := runZv (w := w) hz
      have hrs := runStoreOne (P := P) (o := i * sz) (cs := zc) hh (by simpa using hfr) hzo hle
      have hrun : (execOp a.eval ⟨none, .call ⟨.builtin .clear, #[x], #[t]⟩, T, pos, af, none⟩).run P w = .ok (.value (.tuple #[])) { w with heap := w.heap.setIfInBounds b (.cells (over (cs ++ sp) (i * sz) zc).toArray ee (lo, hi')) } := by
        simp [execOp, resolve, invoke, builtin, ha.eval hx, Builtin.clear_, run_underlying hu, Result.andThen, hz', hzc, hrs]
      have hov : over (cs ++ sp) (i * sz) zc = over cs (i * sz) zc ++ sp := by
        unfold over
        rw [List.take_append_of_le_length (by omega), List.drop_append_of_le_length (by omega)]
        simp
      unfold Oper.wp
      rw [hrun]
      have hA : St w0 S0 (.blk b (cs ++ sp).toArray ee :: r) w := ⟨S, ⟨S1, S2, hus, hd, ⟨hS1, lo, hi', hh, hfr⟩, h5⟩, hs2, hs3⟩
      have hupd : St w0 S0 (.blk b (over (cs ++ sp) (i * sz) zc).toArray ee :: r) { w with heap := w.heap.setIfInBounds b (.cells (over (cs ++ sp) (i * sz) zc).toArray ee (lo, hi')) } := by
        refine hA.write .head (fun lo' hi2 h8 _ => ?_) (over_length hle)
        rw [hh] at h8
        injection h8 with h8
        cases h8
        rfl
      have htk : (over cs (i * sz) zc).take (i * sz) = cs.take (i * sz) := by
        unfold over
        rw [List.append_assoc, List.take_left' (by rw [List.length_take]; omega)]
      refine hK _ _ ((kk _ htk).go _ _ ha (hupd.mono fun S' w' hs' => star_mono hs' (fun S'' h => ?_) fun _ h => h))
      rw [hov] at h
      exact blk_own h (by rw [over_length hcut]; exact hcl) h4 (by rw [← hov, over_length hle, h6])
/-- The list is cut off. -/
theorem own_cut {S : BSet} {w : World} (i : Nat) (hi : i ≤ len) (h : (HP.own ee sz v len cs).sat S w) : (HP.own ee sz (subSl sz 0 i v) i (cs.take (i * sz))).sat S w := by
  obtain ⟨hl, h⟩ := h
  refine ⟨by rw [List.length_take]; exact Nat.min_eq_left (by rw [hl]; exact Nat.mul_le_mul_right _ hi), ?_⟩
  rcases h with ⟨h1, h2, h3⟩ | ⟨b, cap, sp, h1, h2, h3, h4⟩
  · subst h1; subst h2
    obtain rfl : i = 0 := by omega
    exact .inl ⟨rfl, rfl, h3⟩
  · subst h1
    refine .inr ⟨b, cap, cs.drop (i * sz) ++ sp, ?_, by omega, ?_, ?_⟩
    · show Value.slice (if cap = 0 then some ⟨b, 0, none⟩ else (some (⟨b, 0, none⟩ : Addr)).map (·.add (0 * sz))) (i - 0) (cap - 0) = _
      have e : ((some (⟨b, 0, none⟩ : Addr)).map (·.add (0 * sz))) = some ⟨b, 0, none⟩ := by simp [Addr.add]
      rw [e, ite_self]; rfl
    · rw [← List.append_assoc, List.take_append_drop]; exact h3
    · rw [← List.append_assoc, List.take_append_drop]; exact h4
theorem WE.cutOwn {ex : Exit} (i : Nat) (ht : Take (.own ee sz v len cs) A r) (hi : i ≤ len) (kk : WE w0 S0 n Q ex F (.own ee sz (subSl sz 0 i v) i (cs.take (i * sz)) :: r)) : WE w0 S0 n Q ex F A :=
  kk.conv fun _ h => h.mono (A' := .own ee sz (subSl sz 0 i v) i (cs.take (i * sz)) :: r) fun S w hs => star_mono (ht.star hs) (fun _ h => own_cut i hi h) fun _ h => h
end
end Go.BK
namespace Go.Proofs.Ytknclcjmfgdphaa
open Go.RowKit Go.BK
def lfC (l : Lf) : List Value := [i64 l.page, i64 l.first, i64 l.n]
theorem lfC_len (l : Lf) : (lfC l).length = 3 := rfl
theorem flat_lf (l : List Lf) : (l.flatMap lfC).length = l.length * 3 := by
  induction l with
  | nil => rfl
  | cons t l ih => rw [List.flatMap_cons, List.length_append, ih, List.length_cons, lfC_len]; omega
theorem isPage_spec (l : Lf) (pb p : Nat) (w : World) (S : BSet) (hS : (sepL [.blk pb #[i64 (p : Int)] 3]).sat S w)  :
    Tri Try.prog 39 #[.agg (lfC l).toArray, ptr pb 0] w S fun u A => u = .bool (decide (l.page = p)) ∧ A = [.blk pb #[i64 (p : Int)] 3] := by
  refine Tri.enter (l := [.agg (lfC l).toArray, ptr pb 0]) Try.func39 rfl Try.ntmps39 rfl [(0, .agg (lfC l).toArray), (1, ptr pb 0)] (subA rfl) hS ?_
  by_cases h : l.page = p
  · have h' : (l.page : Int) = (p : Int) := by omega
    rw [decide_eq_true h]
    repeat first
      | refine WC.seq ?_ | refine WC.region ?_
    try refine WL.wanted rfl rfl rfl ?_
    (apply WL.box; exact rfl; exact rfl; exact rfl; intro xb)
    repeat first
      | (apply WL.q; exact rfl; exact rfl; exact rfl; (first | (apply EvW.assign; exact rfl) | (apply EvW.fieldAddr0; exact rfl; exact FldC.eq) | (apply EvW.load; exact rfl; exact ScalC.eq; (focus ((repeat constructor); done)); exact rfl) | (apply EvW.cmpT; exact rfl; exact rfl; exact rfl; omega)))
      | refine WC.seq ?_ | refine WC.region ?_ | refine WL.nil ?_ | refine WE.next ?_ | refine WC.ret ?_
    refine WE.keep (xs := [.blk pb #[i64 (p : Int)] 3]) (by repeat constructor) ?_
    refine WE.ret1 rfl rfl ?_
    exact ⟨rfl, rfl⟩
  · have h' : ¬ (l.page : Int) = (p : Int) := by omega
    rw [decide_eq_false h]
    repeat first
      | refine WC.seq ?_ | refine WC.region ?_
    try refine WL.wanted rfl rfl rfl ?_
    (apply WL.box; exact rfl; exact rfl; exact rfl; intro xb)
    repeat first
      | (apply WL.q; exact rfl; exact rfl; exact rfl; (first | (apply EvW.assign; exact rfl) | (apply EvW.fieldAddr0; exact rfl; exact FldC.eq) | (apply EvW.load; exact rfl; exact ScalC.eq; (focus ((repeat constructor); done)); exact rfl) | (apply EvW.cmpF; exact rfl; exact rfl; exact rfl; omega)))
      | refine WC.seq ?_ | refine WC.region ?_ | refine WL.nil ?_ | refine WE.next ?_ | refine WC.ret ?_
    refine WE.keep (xs := [.blk pb #[i64 (p : Int)] 3]) (by repeat constructor) ?_
    refine WE.ret1 rfl rfl ?_
    exact ⟨rfl, rfl⟩
theorem lf_at {l : List Lf} {i : Nat} (h : i < l.length) : l.getD i default ∈ l := by
  rw [List.getD_eq_getElem?_getD, List.getElem?_eq_getElem h]; exact List.getElem_mem h
theorem index_spec (v : Value) (L : List Lf) (pb p : Nat) (w : World) (S : BSet) (hS : (sepL [.own 68 3 (v) (L).length ((L).flatMap lfC), .blk pb #[i64 (p : Int)] 3]).sat S w) (hn : L.length ≤ 24) :
    Tri Try.prog 62 #[v, .func (.func 39) #[] #[ptr pb 0]] w S fun u A => ∃ i : Int, u = i64 i ∧ A = [.own 68 3 (v) (L).length ((L).flatMap lfC), .blk pb #[i64 (p : Int)] 3] ∧ ((i = -1 ∧ ∀ l ∈ L, l.page ≠ p) ∨ (∃ k : Nat, i = k ∧ k < L.length ∧ (L.getD k default).page = p ∧ ∀ l ∈ L.take k, l.page ≠ p)) := by
  refine Tri.enter (l := [v, .func (.func 39) #[] #[ptr pb 0]]) Try.func62 rfl Try.ntmps62 rfl [(0, v), (1, .func (.func 39) #[] #[ptr pb 0])] (subA rfl) hS ?_
  repeat first
    | (apply WL.q; exact rfl; exact rfl; exact rfl; (first | (apply EvW.move; exact rfl) | (apply EvW.assign; exact rfl) | (apply EvW.lenOwn; exact rfl; exact UndC.eq; (focus ((repeat constructor); done)))))
    | refine WC.seq ?_ | refine WC.region ?_ | refine WL.nil ?_ | refine WE.next ?_ | refine WC.block ?_
  refine WC.loopK (σ := Nat) [0, 1, 7] (fun s => [(8, i64 s)]) (fun s => [.own 68 3 (v) (L).length ((L).flatMap lfC), .blk pb #[i64 (p : Int)] 3]) (fun s => s ≤ L.length ∧ ∀ l ∈ L.take s, l.page ≠ p) (fun s => L.length - s) 0 (by (focus ((repeat (first | exact Pick.nil | (apply Pick.cons; exact rfl))); done))) (by (focus ((repeat (first | exact trivial | (refine ⟨rfl, ?_⟩))); done))) (fun _ h => h.keep (by repeat constructor)) ⟨Nat.zero_le _, fun l hl => by simp at hl⟩ (fun s hs => ?_)
  obtain ⟨k, rfl⟩ : ∃ q, q = s := ⟨s, rfl⟩
  simp only [List.cons_append, List.nil_append] at hs ⊢
  obtain ⟨hk0, hno⟩ := hs
  by_cases hlt : (k : Int) < L.length
  · have hk : k < L.length := by omega
    repeat first
      | (apply WL.q; exact rfl; exact rfl; exact rfl; (first | (apply EvW.move; exact rfl) | (apply EvW.assign; exact rfl) | (apply EvW.cmpT; exact rfl; exact rfl; exact rfl; omega) | (apply EvW.idxOwn; exact rfl; exact rfl; exact UndC.eq; exact SzC.eq; (focus ((repeat constructor); done)); omega; omega)))
      | refine WC.seq ?_ | refine WC.region ?_ | refine WL.nil ?_ | refine WE.next ?_ | refine WC.block ?_ | refine WC.skip ?_ | refine WC.condT rfl ?_
    try refine WL.wanted rfl rfl rfl ?_
    (apply WL.q; exact rfl; exact rfl; exact rfl; (apply EvW.ldElemOwn (xs := L) (z := (default : Lf)) (f := lfC); exact rfl; exact AggC.eq; exact SzC.eq; exact rfl; exact fun _ => rfl; (focus ((repeat constructor); done)); omega))
    rw [show ((k : Nat) : Int).toNat = k from rfl]
    obtain ⟨x, hx⟩ : ∃ x, L.getD k default = x := ⟨_, rfl⟩
    rw [hx]
    try refine WL.wanted rfl rfl rfl ?_
    apply WL.callV ([.blk pb #[i64 (p : Int)] 3])
    · exact rfl
    · exact rfl
    · exact rfl
    · exact fun w => Try.call39 _ w
    · (focus ((repeat constructor); done))
    · exact fun w1 S1 hS1 hs1 ho1 => (isPage_spec x pb p w1 S1 hS1)
    rintro _ _ ⟨rfl, rfl⟩
    first | refine WL.app4 ?_ | refine WL.app3 ?_ | refine WL.app2 ?_ | refine WL.app1 ?_ | refine WL.app0 ?_ | skip
    by_cases hp : x.page = p
    · rw [decide_eq_true hp]
      repeat first
        | (apply WL.q; exact rfl; exact rfl; exact rfl; (first | (apply EvW.move; exact rfl) | (apply EvW.assign; exact rfl)))
        | refine WC.seq ?_ | refine WC.region ?_ | refine WL.nil ?_ | refine WE.next ?_ | refine WC.condT rfl ?_ | refine WC.ret ?_ | refine WE.passRet ?_ | refine WE.outRet ?_
      refine WE.keep (xs := [.own 68 3 (v) (L).length ((L).flatMap lfC), .blk pb #[i64 (p : Int)] 3]) (by repeat constructor) ?_
      refine WE.ret1 rfl rfl ?_
      exact ⟨k, rfl, rfl, .inr ⟨k, rfl, hk, by rw [hx]; exact hp, hno⟩⟩
    · rw [decide_eq_false hp]
      repeat first
        | (apply WL.q; exact rfl; exact rfl; exact rfl; (first | (apply EvW.move; exact rfl) | (apply EvW.arN; exact rfl; exact rfl; exact rfl; refine i64_in ?_ ?_ <;> omega)))
        | refine WC.region ?_ | refine WL.nil ?_ | refine WE.next ?_ | refine WC.skip ?_ | refine WE.out ?_ | refine WC.condF rfl ?_
      have hno2 : ∀ l ∈ L.take (k + 1), l.page ≠ p := fun l hl => by
        rw [List.take_add_one, List.getElem?_eq_getElem hk] at hl
        rcases List.mem_append.1 hl with hl | hl
        · exact hno l hl
        · simp only [Option.toList, List.mem_singleton] at hl
          rw [List.getD_eq_getElem?_getD, List.getElem?_eq_getElem hk] at hx
          have hx' : L[k] = x := hx
          rw [hl, hx']; exact hp
      skip
      exact WE.again (s := k) (k + 1) ⟨by omega, hno2⟩ (by (focus ((repeat (first | exact trivial | (refine ⟨rfl, ?_⟩))); done))) (fun _ h => (by (try simp only []); exact h.keep (by repeat constructor))) (by (try simp only []); omega)
  · have hkl : k = L.length := by omega
    rw [hkl, List.take_length] at hno
    repeat first
      | (apply WL.q; exact rfl; exact rfl; exact rfl; (first | (apply EvW.assign; exact rfl) | (apply EvW.cmpF; exact rfl; exact rfl; exact rfl; omega)))
      | refine WC.seq ?_ | refine WC.region ?_ | refine WL.nil ?_ | refine WE.next ?_ | refine WC.exit ?_ | refine WE.pass ?_ | refine WE.hit ?_ | refine WC.condF rfl ?_ | refine WC.ret ?_
    refine WE.keep (xs := [.own 68 3 (v) (L).length ((L).flatMap lfC), .blk pb #[i64 (p : Int)] 3]) (by repeat constructor) ?_
    refine WE.ret1 rfl rfl ?_
    exact ⟨-1, rfl, rfl, .inl ⟨rfl, hno⟩⟩
theorem without_snoc (L : List Lf) (x : Lf) (p : Nat) : without (L ++ [x]) p = if x.page = p then without L p else without L p ++ [x] := by
  unfold without
  rw [List.filter_append]
  by_cases h : x.page = p
  · rw [if_pos h, List.filter_cons_of_neg (by simp [h])]; simp
  · rw [if_neg h, List.filter_cons_of_pos (by simp [h])]; rfl
theorem without_none {L : List Lf} {p : Nat} (h : ∀ l ∈ L, l.page ≠ p) : without L p = L := by
  unfold without
  rw [List.filter_eq_self]
  intro l hl; simp [h l hl]
theorem over_lf (c d : Lf) : over (lfC d) 0 (lfC c) = lfC c := by simp [over, lfC]
set_option maxHeartbeats 1000000 in
theorem delete_spec (v : Value) (L : List Lf) (pb p : Nat) (w : World) (S : BSet) (hS : (sepL [.own 68 3 (v) (L).length ((L).flatMap lfC), .blk pb #[i64 (p : Int)] 3]).sat S w) (hn : L.length ≤ 24) :
    Tri Try.prog 38 #[v, .func (.func 39) #[] #[ptr pb 0]] w S fun u A => ∃ v', u = v' ∧ A = [.own 68 3 (v') (without L p).length ((without L p).flatMap lfC), .blk pb #[i64 (p : Int)] 3] := by
  refine Tri.enter (l := [v, .func (.func 39) #[] #[ptr pb 0]]) Try.func38 rfl Try.ntmps38 rfl [(0, v), (1, .func (.func 39) #[] #[ptr pb 0])] (subA rfl) hS ?_
  repeat first
    | (apply WL.q; exact rfl; exact rfl; exact rfl; (first | (apply EvW.move; exact rfl) | (apply EvW.assign; exact rfl)))
    | refine WC.seq ?_ | refine WC.region ?_ | refine WL.nil ?_ | refine WE.next ?_
  try refine WL.wanted rfl rfl rfl ?_
  apply WL.callA ([.own 68 3 (v) (L).length ((L).flatMap lfC), .blk pb #[i64 (p : Int)] 3])
  · exact rfl
  · exact rfl
  · exact fun w => Try.call62 _ w
  · (focus ((repeat constructor); done))
  · exact fun w1 S1 hS1 hs1 ho1 => index_spec v L pb p w1 S1 hS1 hn
  rintro _ _ ⟨i, rfl, rfl, hi⟩
  first | refine WL.app4 ?_ | refine WL.app3 ?_ | refine WL.app2 ?_ | refine WL.app1 ?_ | refine WL.app0 ?_ | skip
  rcases hi with ⟨rfl, hno⟩ | ⟨k, rfl, hk, hkp, hno⟩
  · rw [without_none hno]
    repeat first
      | (apply WL.q; exact rfl; exact rfl; exact rfl; (first | (apply EvW.move; exact rfl) | (apply EvW.assign; exact rfl) | (apply EvW.cmpT; exact rfl; exact rfl; exact rfl; omega)))
      | refine WC.seq ?_ | refine WC.region ?_ | refine WL.nil ?_ | refine WE.next ?_ | refine WC.condT rfl ?_ | refine WC.ret ?_ | refine WE.passRet ?_
    refine WE.keep (xs := [.own 68 3 (v) (L).length ((L).flatMap lfC), .blk pb #[i64 (p : Int)] 3]) (by repeat constructor) ?_
    refine WE.ret1 rfl rfl ?_
    exact ⟨v, rfl, rfl⟩
  have hne : ¬ ((k : Nat) : Int) = -1 := by omega
  repeat first
    | (apply WL.q; exact rfl; exact rfl; exact rfl; (first | (apply EvW.move; exact rfl) | (apply EvW.assign; exact rfl) | (apply EvW.cmpF; exact rfl; exact rfl; exact rfl; omega) | (apply EvW.arN; exact rfl; exact rfl; exact rfl; refine i64_in ?_ ?_ <;> omega)))
    | refine WC.seq ?_ | refine WC.region ?_ | refine WL.nil ?_ | refine WE.next ?_ | refine WC.block ?_ | refine WC.skip ?_ | refine WC.condF rfl ?_
  have hW0 : without (L.take (k + 1)) p = L.take k := by
    rw [List.take_add_one, List.getElem?_eq_getElem hk]
    rw [List.getD_eq_getElem?_getD, List.getElem?_eq_getElem hk] at hkp
    rw [show (some L[k]).toList = [L[k]] from rfl, without_snoc, if_pos (show L[k].page = p from hkp), without_none hno]
  have hL0 : L = L.take k ++ ([L.getD k default] ++ L.drop (k + 1)) := by
    conv => lhs; rw [← List.take_append_drop k L]
    rw [cut_at L k hk]; rfl
  have hkl : (L.take k).length = k := by rw [List.length_take]; omega
  refine WC.conv (A' := [.own 68 3 (v) (L.take k ++ ([L.getD k default] ++ L.drop (k + 1))).length ((L.take k ++ ([L.getD k default] ++ L.drop (k + 1))).flatMap lfC), .blk pb #[i64 (p : Int)] 3]) (fun _ h => by rw [← hL0]; exact h) ?_
  rw [show ((k : Nat) : Int) + 1 = ((k + 1 : Nat) : Int) from rfl]
  refine WC.loopK (σ := Nat × Nat × List Lf × List Lf) [0, 1] (fun s => [(6, i64 s.1), (5, i64 s.2.1)]) (fun s => [.own 68 3 (v) (s.2.2.1 ++ (s.2.2.2 ++ L.drop s.1)).length ((s.2.2.1 ++ (s.2.2.2 ++ L.drop s.1)).flatMap lfC), .blk pb #[i64 (p : Int)] 3]) (fun s => s.1 ≤ L.length ∧ s.2.2.1 = without (L.take s.1) p ∧ s.2.2.1.length + s.2.2.2.length = s.1 ∧ 1 ≤ s.2.2.2.length ∧ s.2.2.1.length = s.2.1) (fun s => L.length - s.1) (k + 1, k, L.take k, [L.getD k default]) (by (focus ((repeat (first | exact Pick.nil | (apply Pick.cons; exact rfl))); done))) (by (focus ((repeat (first | exact trivial | (refine ⟨rfl, ?_⟩))); done))) (fun _ h => h.keep (by repeat constructor)) ⟨hk, hW0.symm, by simp only [List.length_singleton]; omega, Nat.le_refl _, hkl⟩ (fun s hs => ?_)
  obtain ⟨j, i, W, J⟩ := s
  simp only [List.cons_append, List.nil_append] at hs ⊢
  obtain ⟨hj0, hW, hWJ, hJ, hWi⟩ := hs
  have hdl : (L.drop j).length = L.length - j := List.length_drop
  have hLn : (W ++ (J ++ L.drop j)).length = L.length := by simp only [List.length_append]; omega
  by_cases hlt : (j : Int) < L.length
  · have hj : j < L.length := by omega
    have hlt' : (j : Int) < (W ++ (J ++ L.drop j)).length := by omega
    have hget : (W ++ (J ++ L.drop j)).getD j default = L.getD j default := by
      rw [← List.append_assoc, List.getD_eq_getElem?_getD, List.getElem?_append_right (by rw [List.length_append]; omega), List.length_append, hWJ, Nat.sub_self, List.getElem?_drop, Nat.add_zero, ← List.getD_eq_getElem?_getD]
    have htk := take_at' L j hj
    repeat first
      | (apply WL.q; exact rfl; exact rfl; exact rfl; (first | (apply EvW.move; exact rfl) | (apply EvW.cmpT; exact rfl; exact rfl; exact rfl; omega) | (apply EvW.lenOwn; exact rfl; exact UndC.eq; (focus ((repeat constructor); done))) | (apply EvW.idxOwn; exact rfl; exact rfl; exact UndC.eq; exact SzC.eq; (focus ((repeat constructor); done)); omega; omega)))
      | refine WC.seq ?_ | refine WC.region ?_ | refine WL.nil ?_ | refine WE.next ?_ | refine WC.block ?_ | refine WC.skip ?_ | refine WC.condT rfl ?_
    try refine WL.wanted rfl rfl rfl ?_
    (apply WL.q; exact rfl; exact rfl; exact rfl; (apply EvW.ldElemOwn (xs := (W ++ (J ++ L.drop j))) (z := (default : Lf)) (f := lfC); exact rfl; exact AggC.eq; exact SzC.eq; exact rfl; exact fun _ => rfl; (focus ((repeat constructor); done)); omega))
    rw [show ((j : Nat) : Int).toNat = j from rfl, hget]
    obtain ⟨x, hx⟩ : ∃ x, L.getD j default = x := ⟨_, rfl⟩
    rw [hx]
    rw [hx] at htk
    try refine WL.wanted rfl rfl rfl ?_
    (apply WL.alloc; exact rfl; exact ZvC.eq; exact rfl; intro xb)
    repeat first
      | (apply WL.q; exact rfl; exact rfl; exact rfl; (first | (apply EvW.move; exact rfl) | (apply EvW.loadAgg; exact rfl; exact AggC.eq; exact SzC.eq; (focus ((repeat constructor); done)); (focus ((repeat (first | exact SubL.nil | apply SubL.cons | apply SubL.succ)); done)))))
      | refine WC.seq ?_ | refine WC.region ?_ | refine WL.nil ?_ | refine WE.next ?_ | (apply WL.store; exact rfl; exact rfl; (first | assumption | exact rfl); exact SzC.eq; (first | assumption | exact rfl); (focus ((repeat constructor); done)))
    try refine WL.wanted rfl rfl rfl ?_
    apply WL.callV ([.blk pb #[i64 (p : Int)] 3])
    · exact rfl
    · exact rfl
    · exact rfl
    · exact fun w => Try.call39 _ w
    · (focus ((repeat constructor); done))
    · exact fun w1 S1 hS1 hs1 ho1 => (isPage_spec x pb p w1 S1 hS1)
    rintro _ _ ⟨rfl, rfl⟩
    first | refine WL.app4 ?_ | refine WL.app3 ?_ | refine WL.app2 ?_ | refine WL.app1 ?_ | refine WL.app0 ?_ | skip
    have hcut : L.drop j = x :: L.drop (j + 1) := by rw [cut_at L j hj, hx]
    by_cases hp : x.page = p
    · rw [decide_eq_true hp]
      repeat first
        | (apply WL.q; exact rfl; exact rfl; exact rfl; (first | (apply EvW.move; exact rfl) | (apply EvW.assign; exact rfl) | (apply EvW.arN; exact rfl; exact rfl; exact rfl; refine i64_in ?_ ?_ <;> omega) | (apply EvW.notT; exact rfl)))
        | refine WC.region ?_ | refine WL.nil ?_ | refine WE.next ?_ | refine WC.skip ?_ | refine WE.out ?_ | refine WC.condF rfl ?_
      have e1 : W ++ (J ++ L.drop j) = W ++ ((J ++ [x]) ++ L.drop (j + 1)) := by rw [hcut]; simp [List.append_assoc]
      rw [e1]
      exact WE.again (s := (j, i, W, J)) ((j + 1, i, W, J ++ [x])) ⟨by simp only []; omega, by simp only []; rw [htk, without_snoc, if_pos hp]; exact hW, by simp only [List.length_append, List.length_singleton]; omega, by simp only [List.length_append, List.length_singleton]; omega, hWi⟩ (by (focus ((repeat (first | exact trivial | (refine ⟨rfl, ?_⟩))); done))) (fun _ h => (by (try simp only []); exact h.keep (by repeat constructor))) (by (try simp only []); omega)
    · rw [decide_eq_false hp]
      obtain ⟨y, J', rfl⟩ : ∃ y J', J = y :: J' := List.exists_cons_of_ne_nil (List.ne_nil_of_length_pos (by omega))
      rw [List.length_cons] at hWJ
      have hil : (i : Int) < (W ++ (y :: J' ++ L.drop j)).length := by omega
      have hset : HP.own 68 3 v (W ++ (y :: J' ++ L.drop j)).length (over ((W ++ (y :: J' ++ L.drop j)).flatMap lfC) (i * 3 + 0) (lfC x)) = HP.own 68 3 v ((W ++ [x]) ++ ((J' ++ [x]) ++ L.drop (j + 1))).length (((W ++ [x]) ++ ((J' ++ [x]) ++ L.drop (j + 1))).flatMap lfC) := by
        rw [over_flat (z := default) (y := x) lfC_len _ i (by omega) (over_lf x _).symm (by rw [lfC_len]; decide)]
        have e2 : (W ++ (y :: J' ++ L.drop j)).set i x = (W ++ [x]) ++ ((J' ++ [x]) ++ L.drop (j + 1)) := by
          rw [← hWi, List.cons_append, set_mid, hcut]; simp [List.append_assoc]
        rw [← e2, List.length_set]
      repeat first
        | (apply WL.q; exact rfl; exact rfl; exact rfl; (first | (apply EvW.move; exact rfl) | (apply EvW.notF; exact rfl) | (apply EvW.loadAgg; exact rfl; exact AggC.eq; exact SzC.eq; (focus ((repeat constructor); done)); (focus ((repeat (first | exact SubL.nil | apply SubL.cons | apply SubL.succ)); done))) | (apply EvW.idxOwn; exact rfl; exact rfl; exact UndC.eq; exact SzC.eq; (focus ((repeat constructor); done)); omega; omega)))
        | refine WC.seq ?_ | refine WC.region ?_ | refine WL.nil ?_ | refine WE.next ?_ | refine WC.condT rfl ?_
      (apply WL.stOwn (ys := lfC x); exact rfl; exact rfl; exact rfl; exact SzC.eq; exact rfl; exact rfl; (focus ((repeat constructor); done)); (rw [flat_lf, lfC_len]; omega); (rw [show ((i : Nat) : Int).toNat = i from rfl, hset]; exact Take.head))
      repeat first
        | (apply WL.q; exact rfl; exact rfl; exact rfl; (first | (apply EvW.move; exact rfl) | (apply EvW.assign; exact rfl) | (apply EvW.arN; exact rfl; exact rfl; exact rfl; refine i64_in ?_ ?_ <;> omega)))
        | refine WC.region ?_ | refine WL.nil ?_ | refine WE.next ?_ | refine WE.out ?_
      exact WE.again (s := (j, i, W, y :: J')) ((j + 1, i + 1, W ++ [x], J' ++ [x])) ⟨by simp only []; omega, by simp only []; rw [htk, without_snoc, if_neg hp, ← hW], by simp only [List.length_append, List.length_singleton]; omega, by simp only [List.length_append, List.length_singleton]; omega, by simp only [List.length_append, List.length_singleton]; omega⟩ (by (focus ((repeat (first | exact trivial | (refine ⟨rfl, ?_⟩))); done))) (fun _ h => (by (try simp only []); exact h.keep (by repeat constructor))) (by (try simp only []); omega)
  have hjl : j = L.length := by omega
  rw [hjl, List.take_length] at hW
  rw [hjl, List.drop_length, List.append_nil]
  have hWJl : (W ++ J).length = W.length + J.length := List.length_append
  have hil : (i : Int) ≤ (W ++ J).length := by omega
  repeat first
    | (apply WL.q; exact rfl; exact rfl; exact rfl; (first | (apply EvW.move; exact rfl) | (apply EvW.cmpF; exact rfl; exact rfl; exact rfl; omega) | (apply EvW.lenOwn; exact rfl; exact UndC.eq; (focus ((repeat constructor); done)))))
    | refine WC.seq ?_ | refine WC.region ?_ | refine WL.nil ?_ | refine WE.next ?_ | refine WC.exit ?_ | refine WE.pass ?_ | refine WE.hit ?_ | refine WC.condF rfl ?_
  (apply WL.q; exact rfl; exact rfl; exact rfl; (apply EvW.sliceOwnLo; exact rfl; (focus ((repeat constructor); done)); exact UndC.eq; exact SzC.eq; exact rfl; omega; exact hil))
  rw [show ((i : Nat) : Int).toNat = i from rfl]
  (apply WL.clearOwn (i := i); exact rfl; (focus ((repeat constructor); done)); omega; exact UndC.eq; exact ZvC.eq; exact rfl; exact rfl; intro cs' hcs)
  repeat first
    | (apply WL.q; exact rfl; exact rfl; exact rfl; (first | (apply EvW.move; exact rfl) | (apply EvW.assign; exact rfl) | (apply EvW.sliceOwn_hi; exact rfl; exact UndC.eq; exact SzC.eq; (focus ((repeat constructor); done)); exact rfl; omega; omega)))
    | refine WC.seq ?_ | refine WC.region ?_ | refine WL.nil ?_ | refine WE.next ?_ | refine WC.ret ?_
  have hcells : cs'.take (i * 3) = (without L p).flatMap lfC := by rw [hcs, List.flatMap_append, List.take_left' (by rw [flat_lf]; omega), hW]
  have hil2 : i = (without L p).length := by rw [← hWi, hW]
  try (apply WL.q; exact rfl; exact rfl; exact rfl; (apply EvW.sliceOwn_hi; exact rfl; exact UndC.eq; exact SzC.eq; (focus ((repeat constructor); done)); exact rfl; omega; exact hil))
  skip
  refine WE.cutOwn i (by repeat constructor) (by omega) ?_
  rw [hcells, hil2]
  refine WE.keep (xs := [.own 68 3 (subSl 3 0 (without L p).length v) (without L p).length ((without L p).flatMap lfC), .blk pb #[i64 (p : Int)] 3]) (by repeat constructor) ?_
  refine WE.ret1 rfl rfl ?_
  exact ⟨_, rfl, rfl⟩
end Go.Proofs.Ytknclcjmfgdphaa
namespace Go.Proofs.Ytknclcjmfgdphaa
open Go.RowKit Go.BK
/-- How many records a page has. -/
def nOf (L : List Lf) (p : Nat) : Nat := L.foldl (fun k l => if l.page = p then l.n else k) 0
def fullM (L : List Lf) : List (Int × Value) := L.foldl (fun m l => mput (l.page : Int) (i64 l.n) m) []
theorem full_get (L : List Lf) (p : Nat) : (mget (p : Int) (fullM L)).getD (i64 0) = i64 (nOf L p) := by
  have key : ∀ (L : List Lf) (m0 : List (Int × Value)) (k0 : Nat), (mget (p : Int) m0).getD (i64 0) = i64 k0 → (mget (p : Int) (L.foldl (fun m l => mput (l.page : Int) (i64 l.n) m) m0)).getD (i64 0) = i64 ((L.foldl (fun k l => if l.page = p then l.n else k) k0 : Nat) : Int) := by
    intro L
    induction L with
    | nil => intro m0 k0 h; exact h
    | cons x L ih =>
      intro m0 k0 h
      rw [List.foldl_cons, List.foldl_cons]
      refine ih _ _ ?_
      rw [mget_put]
      by_cases e : x.page = p
      · rw [if_pos (by omega), if_pos e]; rfl
      · rw [if_neg (by omega), if_neg e]; exact h
  exact key L [] 0 rfl
theorem full_snoc (L : List Lf) (i : Nat) (h : i < L.length) : fullM (L.take (i + 1)) = mput ((L.getD i default).page : Int) (i64 (L.getD i default).n) (fullM (L.take i)) := by
  unfold fullM
  rw [take_at' L i h, List.foldl_append]; rfl
theorem nOf_foldl : ∀ (L : List Lf) (p k : Nat), p ∉ L.map (·.page) → L.foldl (fun k l => if l.page = p then l.n else k) k = k
  | [], _, _, _ => rfl
  | x :: L, p, k, h => by
    rw [List.map_cons, List.mem_cons, not_or] at h
    rw [List.foldl_cons, if_neg (fun e => h.1 e.symm)]
    exact nOf_foldl L p k h.2
theorem nOf_mem : ∀ {L : List Lf} (k : Nat), (L.map (·.page)).Nodup → ∀ l ∈ L, L.foldl (fun k x => if x.page = l.page then x.n else k) k = l.n
  | x :: L, k, hd, l, hl => by
    rw [List.map_cons, List.nodup_cons] at hd
    rw [List.foldl_cons]
    rcases List.mem_cons.1 hl with rfl | hl
    · rw [if_pos rfl]; exact nOf_foldl L _ _ hd.1
    · exact nOf_mem _ hd.2 l hl
theorem nOf_not {L : List Lf} {p : Nat} (h : p ∉ L.map (·.page)) : nOf L p = 0 := nOf_foldl L p 0 h
theorem mem_len : ∀ (n : Nat) (l : List Nat), (∀ k, k < n → k ∈ l) → n ≤ l.length
  | 0, _, _ => Nat.zero_le _
  | n + 1, l, h => by
    have hm := h n (Nat.lt_succ_self n)
    have := mem_len n (l.erase n) fun k hk => (List.mem_erase_of_ne (by omega)).2 (h k (by omega))
    rw [List.length_erase_of_mem hm] at this
    have := List.length_pos_of_mem hm
    omega
/-- What the choice comes to. -/
theorem victim_free {L : List Lf} {p : Nat} (hd : (L.map (·.page)).Nodup) (hlt : ∀ l ∈ L, l.page < 24) (h : nOf L p = 0 ∨ ((∀ k, k < 24 → nOf L k ≠ 0) ∧ ∃ l r, L = l :: r ∧ l.page = p)) : Free L p := fun x hx hxp => by
  rcases h with h | ⟨hall, l, r, rfl, hlp⟩
  · subst hxp
    exact .inl (by rw [← nOf_mem 0 hd x hx]; exact h)
  · have hd' := hd
    rw [List.map_cons, List.nodup_cons] at hd'
    have hxl : x = l := by
      rcases List.mem_cons.1 hx with e | e
      · exact e
      · exact absurd (List.mem_map.2 ⟨x, e, hxp.trans hlp.symm⟩) hd'.1
    subst hxl
    refine .inr ⟨r, rfl, ?_, fun y hy => ?_⟩
    · have h1 : 24 ≤ ((x :: r).map (·.page)).length := mem_len 24 _ fun k hk => by
        refine Classical.byContradiction fun hn => hall k hk (nOf_not hn)
      rw [List.length_map, List.length_cons] at h1
      omega
    · have hy' : y ∈ x :: r := List.mem_cons_of_mem _ hy
      have h1 := hall y.page (hlt y hy')
      have h2 := nOf_mem 0 hd y hy'
      unfold nOf at h1
      omega
theorem victim_spec (jb mb : Nat) (o : Option Nat) (m : Mem) (K : Nat) (st : St8) (lv : Value) (L : List Lf) (a nx : Int) (d : Bool) (w : World) (S : BSet) (hS : (sepL [.blk jb #[str (st).1, .bool (st).2, ptr mb 0, lv, i64 a, i64 nx, .bool d] 41, .own 68 3 (lv) (L).length ((L).flatMap lfC), .blk mb (Value.map (o) :: i64 (m).ar :: i64 (m).ac :: Value.bool (m).off :: ((m).pages.map str ++ (m).worn.map i64)).toArray 61]).sat S w) (hm : m.wf K) (hn : L.length ≤ 24) (hlt24 : ∀ l ∈ L, l.page < 24) :
    Tri Try.prog 37 #[ptr jb 0] w S fun u A => ∃ p : Nat, u = i64 p ∧ A = [.blk jb #[str (st).1, .bool (st).2, ptr mb 0, lv, i64 a, i64 nx, .bool d] 41, .own 68 3 (lv) (L).length ((L).flatMap lfC), .blk mb (Value.map (o) :: i64 (m).ar :: i64 (m).ac :: Value.bool (m).off :: ((m).pages.map str ++ (m).worn.map i64)).toArray 61] ∧ p < 24 ∧ (nOf L p = 0 ∨ ((∀ k, k < 24 → nOf L k ≠ 0) ∧ ∃ l r, L = l :: r ∧ l.page = p)) := by
  refine Tri.enter (l := [ptr jb 0]) Try.func37 rfl Try.ntmps37 rfl [(0, ptr jb 0)] (subA rfl) hS ?_
  repeat first
    | (apply WL.q; exact rfl; exact rfl; exact rfl; (first | (apply EvW.assign; exact rfl)))
    | refine WC.seq ?_ | refine WC.region ?_ | refine WL.nil ?_ | refine WE.next ?_
  try refine WL.wanted rfl rfl rfl ?_
  (apply WL.makeMap; exact rfl; intro fm)
  repeat first
    | (apply WL.q; exact rfl; exact rfl; exact rfl; (first | (apply EvW.move; exact rfl) | (apply EvW.assign; exact rfl) | (apply EvW.nilPtr; exact rfl) | (apply EvW.fieldAddr0; exact rfl; exact FldC.eq) | (apply EvW.load; exact rfl; exact ScalC.eq; (focus ((repeat constructor); done)); exact rfl) | (apply EvW.lenOwn; exact rfl; exact UndC.eq; (focus ((repeat constructor); done)))))
    | refine WC.seq ?_ | refine WC.region ?_ | refine WL.nil ?_ | refine WE.next ?_ | refine WC.block ?_
  refine WC.loopK (σ := Nat) [0, 3, 12, 13] (fun s => [(14, i64 s)]) (fun s => [.blk jb #[str (st).1, .bool (st).2, ptr mb 0, lv, i64 a, i64 nx, .bool d] 41, .own 68 3 (lv) (L).length ((L).flatMap lfC), .blk mb (Value.map (o) :: i64 (m).ar :: i64 (m).ac :: Value.bool (m).off :: ((m).pages.map str ++ (m).worn.map i64)).toArray 61, .imap fm (fullM (L.take s))]) (fun s => s ≤ L.length) (fun s => L.length - s) 0 (by (focus ((repeat (first | exact Pick.nil | (apply Pick.cons; exact rfl))); done))) (by (focus ((repeat (first | exact trivial | (refine ⟨rfl, ?_⟩))); done))) (fun _ h => h.keep (by repeat constructor)) (Nat.zero_le _) (fun s hs => ?_)
  obtain ⟨i, rfl⟩ : ∃ q, q = s := ⟨s, rfl⟩
  simp only [List.cons_append, List.nil_append] at hs ⊢
  by_cases hlt : (i : Int) < L.length
  · have hi : i < L.length := by omega
    have hfs := full_snoc L i hi
    repeat first
      | (apply WL.q; exact rfl; exact rfl; exact rfl; (first | (apply EvW.cmpT; exact rfl; exact rfl; exact rfl; omega) | (apply EvW.idxOwn; exact rfl; exact rfl; exact UndC.eq; exact SzC.eq; (focus ((repeat constructor); done)); omega; omega)))
      | refine WC.seq ?_ | refine WC.region ?_ | refine WL.nil ?_ | refine WE.next ?_ | refine WC.block ?_ | refine WC.skip ?_ | refine WC.condT rfl ?_
    try refine WL.wanted rfl rfl rfl ?_
    (apply WL.q; exact rfl; exact rfl; exact rfl; (apply EvW.ldElemOwn (xs := L) (z := (default : Lf)) (f := lfC); exact rfl; exact AggC.eq; exact SzC.eq; exact rfl; exact fun _ => rfl; (focus ((repeat constructor); done)); omega))
    rw [show ((i : Nat) : Int).toNat = i from rfl]
    obtain ⟨x, hx⟩ : ∃ x, L.getD i default = x := ⟨_, rfl⟩
    rw [hx] at hfs ⊢
    try refine WL.wanted rfl rfl rfl ?_
    (apply WL.alloc; exact rfl; exact ZvC.eq; exact rfl; intro xb)
    repeat first
      | (apply WL.q; exact rfl; exact rfl; exact rfl; (first | (apply EvW.move; exact rfl) | (apply EvW.fieldAddr0; exact rfl; exact FldC.eq) | (apply EvW.load; exact rfl; exact ScalC.eq; (focus ((repeat constructor); done)); exact rfl) | (apply EvW.arN; exact rfl; exact rfl; exact rfl; refine i64_in ?_ ?_ <;> omega)))
      | refine WC.region ?_ | refine WL.nil ?_ | refine WE.next ?_ | refine WE.out ?_ | (apply WL.store; exact rfl; exact rfl; (first | assumption | exact rfl); exact SzC.eq; (first | assumption | exact rfl); (focus ((repeat constructor); done))) | (apply WL.mapUpdate; exact rfl; exact rfl; exact rfl; exact UndC.eq; exact UndC.eq; (focus ((repeat (first | apply UpdM.head | apply UpdM.tail)); done)))
    rw [← hfs]
    exact WE.again (s := i) (i + 1) (by omega) (by (focus ((repeat (first | exact trivial | (refine ⟨rfl, ?_⟩))); done))) (fun _ h => (by (try simp only []); exact h.keep (by repeat constructor))) (by (try simp only []); omega)
  have hil : i = L.length := by omega
  rw [hil, List.take_length]
  repeat first
    | (apply WL.q; exact rfl; exact rfl; exact rfl; (first | (apply EvW.move; exact rfl) | (apply EvW.assign; exact rfl) | (apply EvW.cmpF; exact rfl; exact rfl; exact rfl; omega)))
    | refine WC.seq ?_ | refine WC.region ?_ | refine WL.nil ?_ | refine WE.next ?_ | refine WC.block ?_ | refine WC.exit ?_ | refine WE.pass ?_ | refine WE.hit ?_ | refine WC.condF rfl ?_
  refine WC.loopK (σ := Nat × Int) [0, 3] (fun s => [(24, i64 s.1), (6, i64 s.2)]) (fun s => [.blk jb #[str (st).1, .bool (st).2, ptr mb 0, lv, i64 a, i64 nx, .bool d] 41, .own 68 3 (lv) (L).length ((L).flatMap lfC), .blk mb (Value.map (o) :: i64 (m).ar :: i64 (m).ac :: Value.bool (m).off :: ((m).pages.map str ++ (m).worn.map i64)).toArray 61, .imap fm (fullM L)]) (fun s => s.1 ≤ 24 ∧ ((s.2 = -1 ∧ ∀ k, k < s.1 → nOf L k ≠ 0) ∨ (∃ k : Nat, s.2 = k ∧ k < s.1 ∧ nOf L k = 0))) (fun s => 24 - s.1) (0, -1) (by (focus ((repeat (first | exact Pick.nil | (apply Pick.cons; exact rfl))); done))) (by (focus ((repeat (first | exact trivial | (refine ⟨rfl, ?_⟩))); done))) (fun _ h => h.keep (by repeat constructor)) ⟨Nat.zero_le _, .inl ⟨rfl, fun k hk => absurd hk (Nat.not_lt_zero _)⟩⟩ (fun s hs => ?_)
  obtain ⟨p, q⟩ := s
  simp only [List.cons_append, List.nil_append] at hs ⊢
  obtain ⟨hp0, hq⟩ := hs
  by_cases hlt2 : (p : Int) < 24
  · have hfg := full_get L p
    by_cases hz : nOf L p = 0
    · have hz' : ((nOf L p : Nat) : Int) = 0 := by omega
      rcases hq with ⟨rfl, hall⟩ | ⟨k, rfl, hk, hk0⟩
      · repeat first
          | (apply WL.q; exact rfl; exact rfl; exact rfl; (first | (apply EvW.move; exact rfl) | (apply EvW.assign; exact rfl) | (apply EvW.cmpT; exact rfl; exact rfl; exact rfl; omega)))
          | refine WC.seq ?_ | refine WC.region ?_ | refine WL.nil ?_ | refine WE.next ?_ | refine WC.block ?_ | refine WC.skip ?_ | refine WC.condT rfl ?_
        repeat refine WC.seq ?_
        refine WC.keep (xs := [.blk jb #[str (st).1, .bool (st).2, ptr mb 0, lv, i64 a, i64 nx, .bool d] 41, .own 68 3 (lv) (L).length ((L).flatMap lfC), .blk mb (Value.map (o) :: i64 (m).ar :: i64 (m).ac :: Value.bool (m).off :: ((m).pages.map str ++ (m).worn.map i64)).toArray 61, .imap fm (fullM L)]) (by repeat constructor) ?_
        apply WC.par _ (fun c : Ch => [.blk jb #[str (st).1, .bool (st).2, ptr mb 0, lv, i64 a, i64 nx, .bool d] 41, .own 68 3 (lv) (L).length ((L).flatMap lfC), .blk mb (Value.map (o) :: i64 (m).ar :: i64 (m).ac :: Value.bool (m).off :: ((m).pages.map str ++ (m).worn.map i64)).toArray 61, .imap fm (fullM L)]) [none, none, none, none] [none, none, none, none] [] Try.mixed
        · (focus ((repeat (first | exact Restr.nil | (apply Restr.keep; exact rfl; exact rfl) | (apply Restr.drop; exact rfl))); done))
        · intro c; exact (by repeat constructor)
        · exact rfl
        · decide +kernel
        · decide +kernel
        · intro c
          (apply Par.quiet _ [true, true, true, true]; exact rfl; decide +kernel; exact rfl; intro R; refine ⟨_, (by repeat constructor), ?_⟩;
               (first | (apply EvW.move; exact rfl)))
          (apply Par.quiet _ [true, true, true, true]; exact rfl; decide +kernel; exact rfl; intro R; refine ⟨_, (by repeat constructor), ?_⟩;
               (first | (apply EvW.move; exact rfl)))
          apply Par.quiet _ [true, true, true, true]
          · exact rfl
          · decide +kernel
          · exact rfl
          · intro R
            refine ⟨_, (by repeat constructor), ?_⟩
            (refine EvW.to (v := (mget (p : Int) (fullM L)).getD (i64 0)) ?_ hfg; apply EvW.lookup; exact rfl; exact rfl; exact UndC.eq; exact UndC.eq; exact ZvC.eq; (focus ((repeat constructor); done)))
          (apply Par.quiet _ [true, true, true, true]; exact rfl; decide +kernel; exact rfl; intro R; refine ⟨_, (by repeat constructor), ?_⟩;
               (first | (apply EvW.cmpT; exact rfl; exact rfl; exact rfl; omega)))
          (apply Par.quiet _ [true, true, true, true]; exact rfl; decide +kernel; exact rfl; intro R; refine ⟨_, (by repeat constructor), ?_⟩;
               (first | (apply EvW.move; exact rfl)))
          first
            | (apply Par.skip; exact rfl; decide +kernel; exact rfl)
            | (apply Par.quiet _ [true, true, true, true]; exact rfl; decide +kernel; exact rfl; intro R; refine ⟨_, (by repeat constructor), ?_⟩;
               (first | (apply EvW.move; exact rfl)))
          first
            | (apply Par.skip; exact rfl; decide +kernel; exact rfl)
            | (apply Par.quiet _ [true, true, true, true]; exact rfl; decide +kernel; exact rfl; intro R; refine ⟨_, (by repeat constructor), ?_⟩;
               (first | (apply EvW.cmpT; exact rfl; exact rfl; exact rfl; omega)))
          first
            | (apply Par.skip; exact rfl; decide +kernel; exact rfl)
            | (apply Par.quiet _ [true, true, true, true]; exact rfl; decide +kernel; exact rfl; intro R; refine ⟨_, (by repeat constructor), ?_⟩;
               (first | (apply EvW.move; exact rfl)))
          first
            | (apply Par.skip; exact rfl; decide +kernel; exact rfl)
            | (apply Par.quiet _ [true, true, true, true]; exact rfl; decide +kernel; exact rfl; intro R; refine ⟨_, (by repeat constructor), ?_⟩;
               fail)
          first
            | (apply Par.skip; exact rfl; decide +kernel; exact rfl)
            | (apply Par.quiet _ [true, true, true, true]; exact rfl; decide +kernel; exact rfl; intro R; refine ⟨_, (by repeat constructor), ?_⟩;
               fail)
          first
            | (apply Par.skip; exact rfl; decide +kernel; exact rfl)
            | (apply Par.quiet _ [true, true, true, true]; exact rfl; decide +kernel; exact rfl; intro R; refine ⟨_, (by repeat constructor), ?_⟩;
               fail)
          first
            | (apply Par.skip; exact rfl; decide +kernel; exact rfl)
            | (apply Par.quiet _ [true, true, true, true]; exact rfl; decide +kernel; exact rfl; intro R; refine ⟨_, (by repeat constructor), ?_⟩;
               fail)
          first
            | (apply Par.skip; exact rfl; decide +kernel; exact rfl)
            | (apply Par.quiet _ [true, true, true, true]; exact rfl; decide +kernel; exact rfl; intro R; refine ⟨_, (by repeat constructor), ?_⟩;
               fail)
          (apply Par.skip; exact rfl; decide +kernel; exact rfl)
          first
            | (apply Par.skip; exact rfl; decide +kernel; exact rfl)
            | (apply Par.quiet _ [true, true, true, true]; exact rfl; decide +kernel; exact rfl; intro R; refine ⟨_, (by repeat constructor), ?_⟩;
               fail)
          first
            | (apply Par.skip; exact rfl; decide +kernel; exact rfl)
            | (apply Par.quiet _ [true, true, true, true]; exact rfl; decide +kernel; exact rfl; intro R; refine ⟨_, (by repeat constructor), ?_⟩;
               fail)
          first
            | (apply Par.skip; exact rfl; decide +kernel; exact rfl)
            | (apply Par.quiet _ [true, true, true, true]; exact rfl; decide +kernel; exact rfl; intro R; refine ⟨_, (by repeat constructor), ?_⟩;
               fail)
          first
            | (apply Par.skip; exact rfl; decide +kernel; exact rfl)
            | (apply Par.quiet _ [true, true, true, true]; exact rfl; decide +kernel; exact rfl; intro R; refine ⟨_, (by repeat constructor), ?_⟩;
               fail)
          first
            | (apply Par.skip; exact rfl; decide +kernel; exact rfl)
            | (apply Par.quiet _ [true, true, true, true]; exact rfl; decide +kernel; exact rfl; intro R; refine ⟨_, (by repeat constructor), ?_⟩;
               fail)
          (apply Par.skip; exact rfl; decide +kernel; exact rfl)
          first
            | (apply Par.skip; exact rfl; decide +kernel; exact rfl)
            | (apply Par.quiet _ [true, true, true, true]; exact rfl; decide +kernel; exact rfl; intro R; refine ⟨_, (by repeat constructor), ?_⟩;
               fail)
          first
            | (apply Par.skip; exact rfl; decide +kernel; exact rfl)
            | (apply Par.quiet _ [true, true, true, true]; exact rfl; decide +kernel; exact rfl; intro R; refine ⟨_, (by repeat constructor), ?_⟩;
               (first | (apply EvW.pickT; exact rfl; exact rfl)))
          (apply Par.quiet _ [true, true, true, true]; exact rfl; decide +kernel; exact rfl; intro R; refine ⟨_, (by repeat constructor), ?_⟩;
               (first | (apply EvW.pickT; exact rfl; exact rfl)))
          exact Par.nil
        · repeat (first | exact AllN.nil | (apply AllN.cons; (intro c x; (repeat (first | exact IndA.nil | (apply IndA.skip; decide +kernel) | apply IndA.same))))) 
        · repeat (first | exact AllN.nil | (apply AllN.cons; (intro c x; (repeat (first | exact IndT.nil | (apply IndT.skip; decide +kernel) | apply IndT.same))))) 
        · exact fun _ => rfl
        intro c
        refine ⟨_, (by repeat constructor), ?_⟩
        apply WE.writ
        · (focus ((repeat (first | exact Writ.nil | apply Writ.some | apply Writ.none)); done))
        repeat first
          | (apply WL.q; exact rfl; exact rfl; exact rfl; (first | (apply EvW.move; exact rfl) | (apply EvW.assign; exact rfl) | (apply EvW.arN; exact rfl; exact rfl; exact rfl; refine i64_in ?_ ?_ <;> omega)))
          | refine WC.region ?_ | refine WL.nil ?_ | refine WE.next ?_ | refine WE.out ?_ | refine WC.condT rfl ?_
        exact WE.again (s := (p, (-1 : Int))) ((p + 1, (p : Int))) ⟨by simp only []; omega, .inr ⟨p, rfl, by simp only []; omega, hz⟩⟩ (by (focus ((repeat (first | exact trivial | (refine ⟨rfl, ?_⟩))); done))) (fun _ h => (by (try simp only []); exact h.keep (by repeat constructor))) (by (try simp only []); omega)
      · have hk' : ¬ ((k : Nat) : Int) < 0 := by omega
        by_cases hw : m.worn' (p : Int) < m.worn' (k : Int)
        · repeat first
            | (apply WL.q; exact rfl; exact rfl; exact rfl; (first | (apply EvW.move; exact rfl) | (apply EvW.assign; exact rfl) | (apply EvW.cmpT; exact rfl; exact rfl; exact rfl; omega)))
            | refine WC.seq ?_ | refine WC.region ?_ | refine WL.nil ?_ | refine WE.next ?_ | refine WC.block ?_ | refine WC.skip ?_ | refine WC.condT rfl ?_
          repeat refine WC.seq ?_
          refine WC.keep (xs := [.blk jb #[str (st).1, .bool (st).2, ptr mb 0, lv, i64 a, i64 nx, .bool d] 41, .own 68 3 (lv) (L).length ((L).flatMap lfC), .blk mb (Value.map (o) :: i64 (m).ar :: i64 (m).ac :: Value.bool (m).off :: ((m).pages.map str ++ (m).worn.map i64)).toArray 61, .imap fm (fullM L)]) (by repeat constructor) ?_
          apply WC.par _ (fun c : Ch => [.blk jb #[str (st).1, .bool (st).2, ptr mb 0, lv, i64 a, i64 nx, .bool d] 41, .own 68 3 (lv) (L).length ((L).flatMap lfC), .blk mb (Value.map (o) :: i64 (m).ar :: i64 (m).ac :: Value.bool (m).off :: ((m).pages.map str ++ (m).worn.map i64)).toArray 61, .imap fm (fullM L)]) [none, none, none, none] [none, none, none, none] [] Try.mixed
          · (focus ((repeat (first | exact Restr.nil | (apply Restr.keep; exact rfl; exact rfl) | (apply Restr.drop; exact rfl))); done))
          · intro c; exact (by repeat constructor)
          · exact rfl
          · decide +kernel
          · decide +kernel
          · intro c
            (apply Par.quiet _ [true, true, true, true]; exact rfl; decide +kernel; exact rfl; intro R; refine ⟨_, (by repeat constructor), ?_⟩;
                 (first | (apply EvW.move; exact rfl)))
            (apply Par.quiet _ [true, true, true, true]; exact rfl; decide +kernel; exact rfl; intro R; refine ⟨_, (by repeat constructor), ?_⟩;
                 (first | (apply EvW.move; exact rfl)))
            apply Par.quiet _ [true, true, true, true]
            · exact rfl
            · decide +kernel
            · exact rfl
            · intro R
              refine ⟨_, (by repeat constructor), ?_⟩
              (refine EvW.to (v := (mget (p : Int) (fullM L)).getD (i64 0)) ?_ hfg; apply EvW.lookup; exact rfl; exact rfl; exact UndC.eq; exact UndC.eq; exact ZvC.eq; (focus ((repeat constructor); done)))
            (apply Par.quiet _ [true, true, true, true]; exact rfl; decide +kernel; exact rfl; intro R; refine ⟨_, (by repeat constructor), ?_⟩;
                 (first | (apply EvW.cmpT; exact rfl; exact rfl; exact rfl; omega)))
            (apply Par.quiet _ [true, true, true, true]; exact rfl; decide +kernel; exact rfl; intro R; refine ⟨_, (by repeat constructor), ?_⟩;
                 (first | (apply EvW.move; exact rfl)))
            first
              | (apply Par.skip; exact rfl; decide +kernel; exact rfl)
              | (apply Par.quiet _ [true, true, true, true]; exact rfl; decide +kernel; exact rfl; intro R; refine ⟨_, (by repeat constructor), ?_⟩;
                 (first | (apply EvW.move; exact rfl)))
            first
              | (apply Par.skip; exact rfl; decide +kernel; exact rfl)
              | (apply Par.quiet _ [true, true, true, true]; exact rfl; decide +kernel; exact rfl; intro R; refine ⟨_, (by repeat constructor), ?_⟩;
                 (first | (apply EvW.cmpF; exact rfl; exact rfl; exact rfl; omega)))
            first
              | (apply Par.skip; exact rfl; decide +kernel; exact rfl)
              | (apply Par.quiet _ [true, true, true, true]; exact rfl; decide +kernel; exact rfl; intro R; refine ⟨_, (by repeat constructor), ?_⟩;
                 (first | (apply EvW.move; exact rfl)))
            first
              | (apply Par.skip; exact rfl; decide +kernel; exact rfl)
              | (apply Par.quiet _ [true, true, true, true]; exact rfl; decide +kernel; exact rfl; intro R; refine ⟨_, (by repeat constructor), ?_⟩;
                 (first | (apply EvW.move; exact rfl)))
            first
              | (apply Par.skip; exact rfl; decide +kernel; exact rfl)
              | (apply Par.quiet _ [true, true, true, true]; exact rfl; decide +kernel; exact rfl; intro R; refine ⟨_, (by repeat constructor), ?_⟩;
                 (first | (apply EvW.nilPtr; exact rfl)))
            first
              | (apply Par.skip; exact rfl; decide +kernel; exact rfl)
              | (apply Par.quiet _ [true, true, true, true]; exact rfl; decide +kernel; exact rfl; intro R; refine ⟨_, (by repeat constructor), ?_⟩;
                 (first | (apply EvW.fieldAddr0; exact rfl; exact FldC.eq)))
            first
              | (apply Par.skip; exact rfl; decide +kernel; exact rfl)
              | (apply Par.quiet _ [true, true, true, true]; exact rfl; decide +kernel; exact rfl; intro R; refine ⟨_, (by repeat constructor), ?_⟩;
                 (first | (apply EvW.load; exact rfl; exact ScalC.eq; (focus ((repeat constructor); done)); exact rfl)))
            first
              | (apply Par.skip; exact rfl; decide +kernel; exact rfl)
              | (apply Par.quiet _ [true, true, true, true]; exact rfl; decide +kernel; exact rfl; intro R; refine ⟨_, (by repeat constructor), ?_⟩;
                 (first | (apply EvW.move; exact rfl)))
            apply Par.quiet _ [true, true, true, true]
            · exact rfl
            · decide +kernel
            · exact rfl
            · intro R
              refine ⟨_, (by repeat constructor), ?_⟩
              apply EvW.callK ([.blk mb (Value.map (o) :: i64 (m).ar :: i64 (m).ac :: Value.bool (m).off :: ((m).pages.map str ++ (m).worn.map i64)).toArray 61])
              · exact rfl
              · exact fun w => Try.call61 _ w
              · (focus ((repeat constructor); done))
              · exact fun w1 S1 hS1 hs1 ho1 => worn_spec mb o m K p w1 S1 hS1 hm
              · exact fun _ _ h => h
            first
              | (apply Par.skip; exact rfl; decide +kernel; exact rfl)
              | (apply Par.quiet _ [true, true, true, true]; exact rfl; decide +kernel; exact rfl; intro R; refine ⟨_, (by repeat constructor), ?_⟩;
                 (first | (apply EvW.move; exact rfl)))
            first
              | (apply Par.skip; exact rfl; decide +kernel; exact rfl)
              | (apply Par.quiet _ [true, true, true, true]; exact rfl; decide +kernel; exact rfl; intro R; refine ⟨_, (by repeat constructor), ?_⟩;
                 (first | (apply EvW.nilPtr; exact rfl)))
            first
              | (apply Par.skip; exact rfl; decide +kernel; exact rfl)
              | (apply Par.quiet _ [true, true, true, true]; exact rfl; decide +kernel; exact rfl; intro R; refine ⟨_, (by repeat constructor), ?_⟩;
                 (first | (apply EvW.fieldAddr0; exact rfl; exact FldC.eq)))
            first
              | (apply Par.skip; exact rfl; decide +kernel; exact rfl)
              | (apply Par.quiet _ [true, true, true, true]; exact rfl; decide +kernel; exact rfl; intro R; refine ⟨_, (by repeat constructor), ?_⟩;
                 (first | (apply EvW.load; exact rfl; exact ScalC.eq; (focus ((repeat constructor); done)); exact rfl)))
            first
              | (apply Par.skip; exact rfl; decide +kernel; exact rfl)
              | (apply Par.quiet _ [true, true, true, true]; exact rfl; decide +kernel; exact rfl; intro R; refine ⟨_, (by repeat constructor), ?_⟩;
                 (first | (apply EvW.move; exact rfl)))
            apply Par.quiet _ [true, true, true, true]
            · exact rfl
            · decide +kernel
            · exact rfl
            · intro R
              refine ⟨_, (by repeat constructor), ?_⟩
              apply EvW.callK ([.blk mb (Value.map (o) :: i64 (m).ar :: i64 (m).ac :: Value.bool (m).off :: ((m).pages.map str ++ (m).worn.map i64)).toArray 61])
              · exact rfl
              · exact fun w => Try.call61 _ w
              · (focus ((repeat constructor); done))
              · exact fun w1 S1 hS1 hs1 ho1 => worn_spec mb o m K k w1 S1 hS1 hm
              · exact fun _ _ h => h
            first
              | (apply Par.skip; exact rfl; decide +kernel; exact rfl)
              | (apply Par.quiet _ [true, true, true, true]; exact rfl; decide +kernel; exact rfl; intro R; refine ⟨_, (by repeat constructor), ?_⟩;
                 (first | (apply EvW.cmpT; exact rfl; exact rfl; exact rfl; omega)))
            first
              | (apply Par.skip; exact rfl; decide +kernel; exact rfl)
              | (apply Par.quiet _ [true, true, true, true]; exact rfl; decide +kernel; exact rfl; intro R; refine ⟨_, (by repeat constructor), ?_⟩;
                 (first | (apply EvW.pickF; exact rfl; exact rfl)))
            (apply Par.quiet _ [true, true, true, true]; exact rfl; decide +kernel; exact rfl; intro R; refine ⟨_, (by repeat constructor), ?_⟩;
                 (first | (apply EvW.pickT; exact rfl; exact rfl)))
            exact Par.nil
          · repeat (first | exact AllN.nil | (apply AllN.cons; (intro c x; (repeat (first | exact IndA.nil | (apply IndA.skip; decide +kernel) | apply IndA.same))))) 
          · repeat (first | exact AllN.nil | (apply AllN.cons; (intro c x; (repeat (first | exact IndT.nil | (apply IndT.skip; decide +kernel) | apply IndT.same))))) 
          · exact fun _ => rfl
          intro c
          refine ⟨_, (by repeat constructor), ?_⟩
          apply WE.writ
          · (focus ((repeat (first | exact Writ.nil | apply Writ.some | apply Writ.none)); done))
          repeat first
            | (apply WL.q; exact rfl; exact rfl; exact rfl; (first | (apply EvW.move; exact rfl) | (apply EvW.assign; exact rfl) | (apply EvW.arN; exact rfl; exact rfl; exact rfl; refine i64_in ?_ ?_ <;> omega)))
            | refine WC.region ?_ | refine WL.nil ?_ | refine WE.next ?_ | refine WE.out ?_ | refine WC.condT rfl ?_
          exact WE.again (s := (p, (k : Int))) ((p + 1, (p : Int))) ⟨by simp only []; omega, .inr ⟨p, rfl, by simp only []; omega, hz⟩⟩ (by (focus ((repeat (first | exact trivial | (refine ⟨rfl, ?_⟩))); done))) (fun _ h => (by (try simp only []); exact h.keep (by repeat constructor))) (by (try simp only []); omega)
        · repeat first
            | (apply WL.q; exact rfl; exact rfl; exact rfl; (first | (apply EvW.move; exact rfl) | (apply EvW.assign; exact rfl) | (apply EvW.cmpT; exact rfl; exact rfl; exact rfl; omega)))
            | refine WC.seq ?_ | refine WC.region ?_ | refine WL.nil ?_ | refine WE.next ?_ | refine WC.block ?_ | refine WC.skip ?_ | refine WC.condT rfl ?_
          repeat refine WC.seq ?_
          refine WC.keep (xs := [.blk jb #[str (st).1, .bool (st).2, ptr mb 0, lv, i64 a, i64 nx, .bool d] 41, .own 68 3 (lv) (L).length ((L).flatMap lfC), .blk mb (Value.map (o) :: i64 (m).ar :: i64 (m).ac :: Value.bool (m).off :: ((m).pages.map str ++ (m).worn.map i64)).toArray 61, .imap fm (fullM L)]) (by repeat constructor) ?_
          apply WC.par _ (fun c : Ch => [.blk jb #[str (st).1, .bool (st).2, ptr mb 0, lv, i64 a, i64 nx, .bool d] 41, .own 68 3 (lv) (L).length ((L).flatMap lfC), .blk mb (Value.map (o) :: i64 (m).ar :: i64 (m).ac :: Value.bool (m).off :: ((m).pages.map str ++ (m).worn.map i64)).toArray 61, .imap fm (fullM L)]) [none, none, none, none] [none, none, none, none] [] Try.mixed
          · (focus ((repeat (first | exact Restr.nil | (apply Restr.keep; exact rfl; exact rfl) | (apply Restr.drop; exact rfl))); done))
          · intro c; exact (by repeat constructor)
          · exact rfl
          · decide +kernel
          · decide +kernel
          · intro c
            (apply Par.quiet _ [true, true, true, true]; exact rfl; decide +kernel; exact rfl; intro R; refine ⟨_, (by repeat constructor), ?_⟩;
                 (first | (apply EvW.move; exact rfl)))
            (apply Par.quiet _ [true, true, true, true]; exact rfl; decide +kernel; exact rfl; intro R; refine ⟨_, (by repeat constructor), ?_⟩;
                 (first | (apply EvW.move; exact rfl)))
            apply Par.quiet _ [true, true, true, true]
            · exact rfl
            · decide +kernel
            · exact rfl
            · intro R
              refine ⟨_, (by repeat constructor), ?_⟩
              (refine EvW.to (v := (mget (p : Int) (fullM L)).getD (i64 0)) ?_ hfg; apply EvW.lookup; exact rfl; exact rfl; exact UndC.eq; exact UndC.eq; exact ZvC.eq; (focus ((repeat constructor); done)))
            (apply Par.quiet _ [true, true, true, true]; exact rfl; decide +kernel; exact rfl; intro R; refine ⟨_, (by repeat constructor), ?_⟩;
                 (first | (apply EvW.cmpT; exact rfl; exact rfl; exact rfl; omega)))
            (apply Par.quiet _ [true, true, true, true]; exact rfl; decide +kernel; exact rfl; intro R; refine ⟨_, (by repeat constructor), ?_⟩;
                 (first | (apply EvW.move; exact rfl)))
            first
              | (apply Par.skip; exact rfl; decide +kernel; exact rfl)
              | (apply Par.quiet _ [true, true, true, true]; exact rfl; decide +kernel; exact rfl; intro R; refine ⟨_, (by repeat constructor), ?_⟩;
                 (first | (apply EvW.move; exact rfl)))
            first
              | (apply Par.skip; exact rfl; decide +kernel; exact rfl)
              | (apply Par.quiet _ [true, true, true, true]; exact rfl; decide +kernel; exact rfl; intro R; refine ⟨_, (by repeat constructor), ?_⟩;
                 (first | (apply EvW.cmpF; exact rfl; exact rfl; exact rfl; omega)))
            first
              | (apply Par.skip; exact rfl; decide +kernel; exact rfl)
              | (apply Par.quiet _ [true, true, true, true]; exact rfl; decide +kernel; exact rfl; intro R; refine ⟨_, (by repeat constructor), ?_⟩;
                 (first | (apply EvW.move; exact rfl)))
            first
              | (apply Par.skip; exact rfl; decide +kernel; exact rfl)
              | (apply Par.quiet _ [true, true, true, true]; exact rfl; decide +kernel; exact rfl; intro R; refine ⟨_, (by repeat constructor), ?_⟩;
                 (first | (apply EvW.move; exact rfl)))
            first
              | (apply Par.skip; exact rfl; decide +kernel; exact rfl)
              | (apply Par.quiet _ [true, true, true, true]; exact rfl; decide +kernel; exact rfl; intro R; refine ⟨_, (by repeat constructor), ?_⟩;
                 (first | (apply EvW.nilPtr; exact rfl)))
            first
              | (apply Par.skip; exact rfl; decide +kernel; exact rfl)
              | (apply Par.quiet _ [true, true, true, true]; exact rfl; decide +kernel; exact rfl; intro R; refine ⟨_, (by repeat constructor), ?_⟩;
                 (first | (apply EvW.fieldAddr0; exact rfl; exact FldC.eq)))
            first
              | (apply Par.skip; exact rfl; decide +kernel; exact rfl)
              | (apply Par.quiet _ [true, true, true, true]; exact rfl; decide +kernel; exact rfl; intro R; refine ⟨_, (by repeat constructor), ?_⟩;
                 (first | (apply EvW.load; exact rfl; exact ScalC.eq; (focus ((repeat constructor); done)); exact rfl)))
            first
              | (apply Par.skip; exact rfl; decide +kernel; exact rfl)
              | (apply Par.quiet _ [true, true, true, true]; exact rfl; decide +kernel; exact rfl; intro R; refine ⟨_, (by repeat constructor), ?_⟩;
                 (first | (apply EvW.move; exact rfl)))
            apply Par.quiet _ [true, true, true, true]
            · exact rfl
            · decide +kernel
            · exact rfl
            · intro R
              refine ⟨_, (by repeat constructor), ?_⟩
              apply EvW.callK ([.blk mb (Value.map (o) :: i64 (m).ar :: i64 (m).ac :: Value.bool (m).off :: ((m).pages.map str ++ (m).worn.map i64)).toArray 61])
              · exact rfl
              · exact fun w => Try.call61 _ w
              · (focus ((repeat constructor); done))
              · exact fun w1 S1 hS1 hs1 ho1 => worn_spec mb o m K p w1 S1 hS1 hm
              · exact fun _ _ h => h
            first
              | (apply Par.skip; exact rfl; decide +kernel; exact rfl)
              | (apply Par.quiet _ [true, true, true, true]; exact rfl; decide +kernel; exact rfl; intro R; refine ⟨_, (by repeat constructor), ?_⟩;
                 (first | (apply EvW.move; exact rfl)))
            first
              | (apply Par.skip; exact rfl; decide +kernel; exact rfl)
              | (apply Par.quiet _ [true, true, true, true]; exact rfl; decide +kernel; exact rfl; intro R; refine ⟨_, (by repeat constructor), ?_⟩;
                 (first | (apply EvW.nilPtr; exact rfl)))
            first
              | (apply Par.skip; exact rfl; decide +kernel; exact rfl)
              | (apply Par.quiet _ [true, true, true, true]; exact rfl; decide +kernel; exact rfl; intro R; refine ⟨_, (by repeat constructor), ?_⟩;
                 (first | (apply EvW.fieldAddr0; exact rfl; exact FldC.eq)))
            first
              | (apply Par.skip; exact rfl; decide +kernel; exact rfl)
              | (apply Par.quiet _ [true, true, true, true]; exact rfl; decide +kernel; exact rfl; intro R; refine ⟨_, (by repeat constructor), ?_⟩;
                 (first | (apply EvW.load; exact rfl; exact ScalC.eq; (focus ((repeat constructor); done)); exact rfl)))
            first
              | (apply Par.skip; exact rfl; decide +kernel; exact rfl)
              | (apply Par.quiet _ [true, true, true, true]; exact rfl; decide +kernel; exact rfl; intro R; refine ⟨_, (by repeat constructor), ?_⟩;
                 (first | (apply EvW.move; exact rfl)))
            apply Par.quiet _ [true, true, true, true]
            · exact rfl
            · decide +kernel
            · exact rfl
            · intro R
              refine ⟨_, (by repeat constructor), ?_⟩
              apply EvW.callK ([.blk mb (Value.map (o) :: i64 (m).ar :: i64 (m).ac :: Value.bool (m).off :: ((m).pages.map str ++ (m).worn.map i64)).toArray 61])
              · exact rfl
              · exact fun w => Try.call61 _ w
              · (focus ((repeat constructor); done))
              · exact fun w1 S1 hS1 hs1 ho1 => worn_spec mb o m K k w1 S1 hS1 hm
              · exact fun _ _ h => h
            first
              | (apply Par.skip; exact rfl; decide +kernel; exact rfl)
              | (apply Par.quiet _ [true, true, true, true]; exact rfl; decide +kernel; exact rfl; intro R; refine ⟨_, (by repeat constructor), ?_⟩;
                 (first | (apply EvW.cmpF; exact rfl; exact rfl; exact rfl; omega)))
            first
              | (apply Par.skip; exact rfl; decide +kernel; exact rfl)
              | (apply Par.quiet _ [true, true, true, true]; exact rfl; decide +kernel; exact rfl; intro R; refine ⟨_, (by repeat constructor), ?_⟩;
                 (first | (apply EvW.pickF; exact rfl; exact rfl)))
            (apply Par.quiet _ [true, true, true, true]; exact rfl; decide +kernel; exact rfl; intro R; refine ⟨_, (by repeat constructor), ?_⟩;
                 (first | (apply EvW.pickT; exact rfl; exact rfl)))
            exact Par.nil
          · repeat (first | exact AllN.nil | (apply AllN.cons; (intro c x; (repeat (first | exact IndA.nil | (apply IndA.skip; decide +kernel) | apply IndA.same))))) 
          · repeat (first | exact AllN.nil | (apply AllN.cons; (intro c x; (repeat (first | exact IndT.nil | (apply IndT.skip; decide +kernel) | apply IndT.same))))) 
          · exact fun _ => rfl
          intro c
          refine ⟨_, (by repeat constructor), ?_⟩
          apply WE.writ
          · (focus ((repeat (first | exact Writ.nil | apply Writ.some | apply Writ.none)); done))
          repeat first
            | (apply WL.q; exact rfl; exact rfl; exact rfl; (first | (apply EvW.move; exact rfl) | (apply EvW.arN; exact rfl; exact rfl; exact rfl; refine i64_in ?_ ?_ <;> omega)))
            | refine WC.region ?_ | refine WL.nil ?_ | refine WE.next ?_ | refine WC.skip ?_ | refine WE.out ?_ | refine WC.condF rfl ?_
          exact WE.again (s := (p, (k : Int))) ((p + 1, (k : Int))) ⟨by simp only []; omega, .inr ⟨k, rfl, by simp only []; omega, hk0⟩⟩ (by (focus ((repeat (first | exact trivial | (refine ⟨rfl, ?_⟩))); done))) (fun _ h => (by (try simp only []); exact h.keep (by repeat constructor))) (by (try simp only []); omega)
    · have hz' : ¬ ((nOf L p : Nat) : Int) = 0 := by omega
      have hq2 : (q = -1 ∧ ∀ k, k < p + 1 → nOf L k ≠ 0) ∨ (∃ k : Nat, q = k ∧ k < p + 1 ∧ nOf L k = 0) := by
        rcases hq with ⟨h1, h2⟩ | ⟨k, h1, h2, h3⟩
        · exact .inl ⟨h1, fun k hk => by
            by_cases e : k = p
            · rw [e]; exact hz
            · exact h2 k (by omega)⟩
        · exact .inr ⟨k, h1, by omega, h3⟩
      repeat first
        | (apply WL.q; exact rfl; exact rfl; exact rfl; (first | (apply EvW.move; exact rfl) | (apply EvW.assign; exact rfl) | (apply EvW.cmpT; exact rfl; exact rfl; exact rfl; omega)))
        | refine WC.seq ?_ | refine WC.region ?_ | refine WL.nil ?_ | refine WE.next ?_ | refine WC.block ?_ | refine WC.skip ?_ | refine WC.condT rfl ?_
      repeat refine WC.seq ?_
      refine WC.keep (xs := [.blk jb #[str (st).1, .bool (st).2, ptr mb 0, lv, i64 a, i64 nx, .bool d] 41, .own 68 3 (lv) (L).length ((L).flatMap lfC), .blk mb (Value.map (o) :: i64 (m).ar :: i64 (m).ac :: Value.bool (m).off :: ((m).pages.map str ++ (m).worn.map i64)).toArray 61, .imap fm (fullM L)]) (by repeat constructor) ?_
      apply WC.par _ (fun c : Ch => [.blk jb #[str (st).1, .bool (st).2, ptr mb 0, lv, i64 a, i64 nx, .bool d] 41, .own 68 3 (lv) (L).length ((L).flatMap lfC), .blk mb (Value.map (o) :: i64 (m).ar :: i64 (m).ac :: Value.bool (m).off :: ((m).pages.map str ++ (m).worn.map i64)).toArray 61, .imap fm (fullM L)]) [none, none, none, none] [none, none, none, none] [] Try.mixed
      · (focus ((repeat (first | exact Restr.nil | (apply Restr.keep; exact rfl; exact rfl) | (apply Restr.drop; exact rfl))); done))
      · intro c; exact (by repeat constructor)
      · exact rfl
      · decide +kernel
      · decide +kernel
      · intro c
        (apply Par.quiet _ [true, true, true, true]; exact rfl; decide +kernel; exact rfl; intro R; refine ⟨_, (by repeat constructor), ?_⟩;
             (first | (apply EvW.move; exact rfl)))
        (apply Par.quiet _ [true, true, true, true]; exact rfl; decide +kernel; exact rfl; intro R; refine ⟨_, (by repeat constructor), ?_⟩;
             (first | (apply EvW.move; exact rfl)))
        apply Par.quiet _ [true, true, true, true]
        · exact rfl
        · decide +kernel
        · exact rfl
        · intro R
          refine ⟨_, (by repeat constructor), ?_⟩
          (refine EvW.to (v := (mget (p : Int) (fullM L)).getD (i64 0)) ?_ hfg; apply EvW.lookup; exact rfl; exact rfl; exact UndC.eq; exact UndC.eq; exact ZvC.eq; (focus ((repeat constructor); done)))
        (apply Par.quiet _ [true, true, true, true]; exact rfl; decide +kernel; exact rfl; intro R; refine ⟨_, (by repeat constructor), ?_⟩;
             (first | (apply EvW.cmpF; exact rfl; exact rfl; exact rfl; omega)))
        (apply Par.quiet _ [true, true, true, true]; exact rfl; decide +kernel; exact rfl; intro R; refine ⟨_, (by repeat constructor), ?_⟩;
             (first | (apply EvW.move; exact rfl)))
        first
          | (apply Par.skip; exact rfl; decide +kernel; exact rfl)
          | (apply Par.quiet _ [true, true, true, true]; exact rfl; decide +kernel; exact rfl; intro R; refine ⟨_, (by repeat constructor), ?_⟩;
             fail)
        first
          | (apply Par.skip; exact rfl; decide +kernel; exact rfl)
          | (apply Par.quiet _ [true, true, true, true]; exact rfl; decide +kernel; exact rfl; intro R; refine ⟨_, (by repeat constructor), ?_⟩;
             fail)
        first
          | (apply Par.skip; exact rfl; decide +kernel; exact rfl)
          | (apply Par.quiet _ [true, true, true, true]; exact rfl; decide +kernel; exact rfl; intro R; refine ⟨_, (by repeat constructor), ?_⟩;
             fail)
        first
          | (apply Par.skip; exact rfl; decide +kernel; exact rfl)
          | (apply Par.quiet _ [true, true, true, true]; exact rfl; decide +kernel; exact rfl; intro R; refine ⟨_, (by repeat constructor), ?_⟩;
             fail)
        first
          | (apply Par.skip; exact rfl; decide +kernel; exact rfl)
          | (apply Par.quiet _ [true, true, true, true]; exact rfl; decide +kernel; exact rfl; intro R; refine ⟨_, (by repeat constructor), ?_⟩;
             fail)
        first
          | (apply Par.skip; exact rfl; decide +kernel; exact rfl)
          | (apply Par.quiet _ [true, true, true, true]; exact rfl; decide +kernel; exact rfl; intro R; refine ⟨_, (by repeat constructor), ?_⟩;
             fail)
        first
          | (apply Par.skip; exact rfl; decide +kernel; exact rfl)
          | (apply Par.quiet _ [true, true, true, true]; exact rfl; decide +kernel; exact rfl; intro R; refine ⟨_, (by repeat constructor), ?_⟩;
             fail)
        first
          | (apply Par.skip; exact rfl; decide +kernel; exact rfl)
          | (apply Par.quiet _ [true, true, true, true]; exact rfl; decide +kernel; exact rfl; intro R; refine ⟨_, (by repeat constructor), ?_⟩;
             fail)
        (apply Par.skip; exact rfl; decide +kernel; exact rfl)
        first
          | (apply Par.skip; exact rfl; decide +kernel; exact rfl)
          | (apply Par.quiet _ [true, true, true, true]; exact rfl; decide +kernel; exact rfl; intro R; refine ⟨_, (by repeat constructor), ?_⟩;
             fail)
        first
          | (apply Par.skip; exact rfl; decide +kernel; exact rfl)
          | (apply Par.quiet _ [true, true, true, true]; exact rfl; decide +kernel; exact rfl; intro R; refine ⟨_, (by repeat constructor), ?_⟩;
             fail)
        first
          | (apply Par.skip; exact rfl; decide +kernel; exact rfl)
          | (apply Par.quiet _ [true, true, true, true]; exact rfl; decide +kernel; exact rfl; intro R; refine ⟨_, (by repeat constructor), ?_⟩;
             fail)
        first
          | (apply Par.skip; exact rfl; decide +kernel; exact rfl)
          | (apply Par.quiet _ [true, true, true, true]; exact rfl; decide +kernel; exact rfl; intro R; refine ⟨_, (by repeat constructor), ?_⟩;
             fail)
        first
          | (apply Par.skip; exact rfl; decide +kernel; exact rfl)
          | (apply Par.quiet _ [true, true, true, true]; exact rfl; decide +kernel; exact rfl; intro R; refine ⟨_, (by repeat constructor), ?_⟩;
             fail)
        (apply Par.skip; exact rfl; decide +kernel; exact rfl)
        first
          | (apply Par.skip; exact rfl; decide +kernel; exact rfl)
          | (apply Par.quiet _ [true, true, true, true]; exact rfl; decide +kernel; exact rfl; intro R; refine ⟨_, (by repeat constructor), ?_⟩;
             fail)
        first
          | (apply Par.skip; exact rfl; decide +kernel; exact rfl)
          | (apply Par.quiet _ [true, true, true, true]; exact rfl; decide +kernel; exact rfl; intro R; refine ⟨_, (by repeat constructor), ?_⟩;
             fail)
        (apply Par.quiet _ [true, true, true, true]; exact rfl; decide +kernel; exact rfl; intro R; refine ⟨_, (by repeat constructor), ?_⟩;
             (first | (apply EvW.pickF; exact rfl; exact rfl)))
        exact Par.nil
      · repeat (first | exact AllN.nil | (apply AllN.cons; (intro c x; (repeat (first | exact IndA.nil | (apply IndA.skip; decide +kernel) | apply IndA.same))))) 
      · repeat (first | exact AllN.nil | (apply AllN.cons; (intro c x; (repeat (first | exact IndT.nil | (apply IndT.skip; decide +kernel) | apply IndT.same))))) 
      · exact fun _ => rfl
      intro c
      refine ⟨_, (by repeat constructor), ?_⟩
      apply WE.writ
      · (focus ((repeat (first | exact Writ.nil | apply Writ.some | apply Writ.none)); done))
      repeat first
        | (apply WL.q; exact rfl; exact rfl; exact rfl; (first | (apply EvW.move; exact rfl) | (apply EvW.arN; exact rfl; exact rfl; exact rfl; refine i64_in ?_ ?_ <;> omega)))
        | refine WC.region ?_ | refine WL.nil ?_ | refine WE.next ?_ | refine WC.skip ?_ | refine WE.out ?_ | refine WC.condF rfl ?_
      exact WE.again (s := (p, q)) ((p + 1, q)) ⟨by simp only []; omega, hq2⟩ (by (focus ((repeat (first | exact trivial | (refine ⟨rfl, ?_⟩))); done))) (fun _ h => (by (try simp only []); exact h.keep (by repeat constructor))) (by (try simp only []); omega)
  have hp24 : p = 24 := by omega
  rcases hq with ⟨rfl, hall⟩ | ⟨k, rfl, hk, hk0⟩
  · rw [hp24] at hall
    obtain ⟨l, r, rfl⟩ : ∃ l r, L = l :: r := List.exists_cons_of_ne_nil fun h => hall 0 (by decide) (by rw [h]; rfl)
    have hl1 : (0 : Int) < (l :: r).length := by rw [List.length_cons]; omega
    repeat first
      | (apply WL.q; exact rfl; exact rfl; exact rfl; (first | (apply EvW.move; exact rfl) | (apply EvW.assign; exact rfl) | (apply EvW.nilPtr; exact rfl) | (apply EvW.fieldAddr0; exact rfl; exact FldC.eq) | (apply EvW.load; exact rfl; exact ScalC.eq; (focus ((repeat constructor); done)); exact rfl) | (apply EvW.cmpT; exact rfl; exact rfl; exact rfl; omega) | (apply EvW.cmpF; exact rfl; exact rfl; exact rfl; omega) | (apply EvW.idxOwn; exact rfl; exact rfl; exact UndC.eq; exact SzC.eq; (focus ((repeat constructor); done)); omega; omega) | (apply EvW.fldOwn; exact rfl; exact FldC.eq; (focus ((repeat constructor); done)); omega) | (apply EvW.ldFldOwn; exact rfl; exact ScalC.eq; (focus ((repeat constructor); done)); exact fun _ => rfl; omega; exact rfl; exact inferInstance)))
      | refine WC.seq ?_ | refine WC.region ?_ | refine WL.nil ?_ | refine WE.next ?_ | refine WC.exit ?_ | refine WE.pass ?_ | refine WE.hit ?_ | refine WC.condT rfl ?_ | refine WC.condF rfl ?_ | refine WC.ret ?_ | refine WE.passRet ?_
    try (apply WL.q; exact rfl; exact rfl; exact rfl; (apply EvW.ldFldOwn (xs := l :: r) (f := lfC) (q := i64 l.page); exact rfl; exact ScalC.eq; (focus ((repeat constructor); done)); exact inferInstance; exact lfC_len; exact Nat.succ_pos _; exact rfl))
    skip
    refine WE.keep (xs := [.blk jb #[str (st).1, .bool (st).2, ptr mb 0, lv, i64 a, i64 nx, .bool d] 41, .own 68 3 (lv) (l :: r).length ((l :: r).flatMap lfC), .blk mb (Value.map (o) :: i64 (m).ar :: i64 (m).ac :: Value.bool (m).off :: ((m).pages.map str ++ (m).worn.map i64)).toArray 61]) (by repeat constructor) ?_
    refine WE.ret1 rfl rfl ?_
    exact ⟨l.page, rfl, rfl, hlt24 l (by simp), .inr ⟨hall, l, r, rfl, rfl⟩⟩
  · have hk' : ¬ ((k : Nat) : Int) < 0 := by omega
    repeat first
      | (apply WL.q; exact rfl; exact rfl; exact rfl; (first | (apply EvW.move; exact rfl) | (apply EvW.assign; exact rfl) | (apply EvW.cmpF; exact rfl; exact rfl; exact rfl; omega)))
      | refine WC.seq ?_ | refine WC.region ?_ | refine WL.nil ?_ | refine WE.next ?_ | refine WC.skip ?_ | refine WC.exit ?_ | refine WE.pass ?_ | refine WE.hit ?_ | refine WC.condF rfl ?_ | refine WC.ret ?_
    refine WE.keep (xs := [.blk jb #[str (st).1, .bool (st).2, ptr mb 0, lv, i64 a, i64 nx, .bool d] 41, .own 68 3 (lv) (L).length ((L).flatMap lfC), .blk mb (Value.map (o) :: i64 (m).ar :: i64 (m).ac :: Value.bool (m).off :: ((m).pages.map str ++ (m).worn.map i64)).toArray 61]) (by repeat constructor) ?_
    refine WE.ret1 rfl rfl ?_
    exact ⟨k, rfl, rfl, by omega, .inl hk0⟩
end Go.Proofs.Ytknclcjmfgdphaa
