/- What is written is read again: statuses, orders, blocks. -/
import Derived.Test.YtdnpofigagdabaaTeleM
import Derived.Test.YtdnpofigagdabaaLibT
import Derived.Test.YtdnpofigagdabaaPackL
namespace Go.Proofs.Ytdnpofigagdabaa
open Go.RowKit Go.BK

theorem flat_back : ∀ l : List Int, (∀ x ∈ l, 0 ≤ x ∧ x ≤ 255) → (l.flatMap (be 1)).map (fun c => (c.toNat : Int)) = l
  | [], _ => rfl
  | x :: l, h => by
    have hx := h x (by simp)
    rw [List.flatMap_cons, List.map_append, flat_back l fun y hy => h y (by simp [hy]), be1]
    simp only [List.map_cons, List.map_nil, bytOf_nat, List.cons_append, List.nil_append, List.cons.injEq, and_true]
    omega
theorem tpart_mid (pre : List UInt8) (l : List Int) (rest : List UInt8) (h : ∀ x ∈ l, 0 ≤ x ∧ x ≤ 255) : tpart (pre ++ (l.flatMap (be 1) ++ rest)) pre.length l.length = l := by
  unfold tpart
  rw [List.drop_left' rfl, List.take_left' (flat1_len l), flat_back l h]
theorem inTo_all {l : List Int} {m : Int} (h : l.all (inTo m) = true) (hm : m ≤ 255) : ∀ x ∈ l, 0 ≤ x ∧ x ≤ 255 := by
  intro x hx
  have := List.all_eq_true.1 h x hx
  unfold inTo at this
  rw [Bool.and_eq_true] at this
  have h1 := of_decide_eq_true this.1
  have h2 := of_decide_eq_true this.2
  omega
theorem sBack {h s : Q4} (hk : sOk h s = true) : sGood h (sPay s) ∧ tpart (sPay s) 1 h.la.length = s.la ∧ tpart (sPay s) (1 + h.la.length) h.lb.length = s.lb ∧ tpart (sPay s) (1 + h.la.length + h.lb.length) h.ly.length = s.ly ∧ tpart (sPay s) (1 + h.la.length + h.lb.length + h.ly.length) h.ld.length = s.ld := by
  have hk' := hk
  rw [sOk_iff] at hk'
  obtain ⟨o0, o1, o2, o3⟩ := hk'
  obtain ⟨n0, i0⟩ := okF_iff.1 o0
  obtain ⟨n1, i1⟩ := okF_iff.1 o1
  obtain ⟨n2, i2⟩ := okF_iff.1 o2
  obtain ⟨n3, i3⟩ := okF_iff.1 o3
  have t0 := tpart_mid (be 1 1) s.la (s.lb.flatMap (be 1) ++ (s.ly.flatMap (be 1) ++ (s.ld.flatMap (be 1) ++ []))) (inTo_all i0 (by decide))
  have t1 := tpart_mid (be 1 1 ++ s.la.flatMap (be 1)) s.lb (s.ly.flatMap (be 1) ++ (s.ld.flatMap (be 1) ++ [])) (inTo_all i1 (by decide))
  have t2 := tpart_mid (be 1 1 ++ (s.la.flatMap (be 1) ++ s.lb.flatMap (be 1))) s.ly (s.ld.flatMap (be 1) ++ []) (inTo_all i2 (by decide))
  have t3 := tpart_mid (be 1 1 ++ (s.la.flatMap (be 1) ++ (s.lb.flatMap (be 1) ++ s.ly.flatMap (be 1)))) s.ld [] (inTo_all i3 (by decide))
  simp only [List.length_append, be_length, flat1_len, List.append_assoc, ← Nat.add_assoc, n0, n1, n2, n3] at t0 t1 t2 t3
  have e0 : tpart (sPay s) 1 h.la.length = s.la := t0
  have e1 : tpart (sPay s) (1 + h.la.length) h.lb.length = s.lb := t1
  have e2 : tpart (sPay s) (1 + h.la.length + h.lb.length) h.ly.length = s.ly := t2
  have e3 : tpart (sPay s) (1 + h.la.length + h.lb.length + h.ly.length) h.ld.length = s.ld := t3
  refine ⟨?_, e0, e1, e2, e3⟩
  have e : sOf h (sPay s) s.a s.b s.y s.d = s := by unfold sOf; rw [e0, e1, e2, e3]
  rw [sGood_iff h (sPay s) s.a s.b s.y s.d, e]
  exact ⟨hk, rfl⟩
theorem oBack {h : Q4} {s : Q3} (hk : oOk h s = true) : oGood h (oPay s) ∧ tpart (oPay s) 1 h.lb.length = s.la ∧ tpart (oPay s) (1 + h.lb.length) h.ld.length = s.lb ∧ tpart (oPay s) (1 + h.lb.length + h.ld.length) h.ly.length = s.ly := by
  have hk' := hk
  rw [oOk_iff] at hk'
  obtain ⟨o0, o1, o2⟩ := hk'
  obtain ⟨n0, i0⟩ := okF_iff.1 o0
  obtain ⟨n1, i1⟩ := okF_iff.1 o1
  obtain ⟨n2, i2⟩ := okF_iff.1 o2
  have t0 := tpart_mid (be 1 2) s.la (s.lb.flatMap (be 1) ++ (s.ly.flatMap (be 1) ++ [])) (inTo_all i0 (by decide))
  have t1 := tpart_mid (be 1 2 ++ s.la.flatMap (be 1)) s.lb (s.ly.flatMap (be 1) ++ []) (inTo_all i1 (by decide))
  have t2 := tpart_mid (be 1 2 ++ (s.la.flatMap (be 1) ++ s.lb.flatMap (be 1))) s.ly [] (inTo_all i2 (by decide))
  simp only [List.length_append, be_length, flat1_len, List.append_assoc, ← Nat.add_assoc, n0, n1, n2] at t0 t1 t2
  have e0 : tpart (oPay s) 1 h.lb.length = s.la := t0
  have e1 : tpart (oPay s) (1 + h.lb.length) h.ld.length = s.lb := t1
  have e2 : tpart (oPay s) (1 + h.lb.length + h.ld.length) h.ly.length = s.ly := t2
  refine ⟨?_, e0, e1, e2⟩
  have e : oOf h (oPay s) s.a s.b s.y = s := by unfold oOf; rw [e0, e1, e2]
  rw [oGood_iff h (oPay s) s.a s.b s.y, e]
  exact ⟨hk, rfl⟩
theorem put_step' {m : PW} {b : List UInt8} (h : (m.put b).e = 0) : m.e = 0 ∧ (m.put b).out = m.out ++ b := by
  unfold PW.put at h ⊢
  split at h
  · simp only [PW.note] at h
    split at h
    · omega
    · contradiction
  · rename_i hc
    rw [if_neg hc]
    split at h
    · rename_i he
      rw [if_pos he]
      exact ⟨he, rfl⟩
    · contradiction
theorem num_step' {m : PW} {k : Nat} {x : Int} (h : (m.num k x).e = 0) : m.e = 0 ∧ (0 ≤ x ∧ x < 256 ^ k) ∧ (m.num k x).out = m.out ++ be k x := by
  by_cases hb : x < 0 ∨ 256 ^ k ≤ x
  · rw [num_wrong k m x hb] at h
    simp only [PW.note] at h
    split at h
    · omega
    · contradiction
  · have h0 : 0 ≤ x ∧ x < 256 ^ k := by omega
    rw [num_right k m x h0.1 h0.2] at h ⊢
    exact ⟨(put_step' h).1, h0, (put_step' h).2⟩
theorem read_num' (k : Nat) (hk : k = 1 ∨ k = 4) (x : Int) (h : 0 ≤ x ∧ x < 256 ^ k) (t : List UInt8) : (PR.mk 0 (be k x ++ t)).num k = (x, PR.mk 0 t) := by
  rw [num_good _ k rfl (by simp [be_length])]
  simp only []
  rw [List.take_left' (be_length k x), List.drop_left' (be_length k x)]
  congr 1
  rcases hk with rfl | rfl
  · exact numOf_be1 x h.1 (by simpa using h.2)
  · exact numOf_be4 x h.1 (by simpa using h.2)
theorem bM_out {x y z : Int} (h : (bM x y z).e = 0) : (bM x y z).said = be 1 3 ++ (be 4 x ++ (be 4 y ++ be 4 z)) ∧ (0 ≤ x ∧ x < 256 ^ 4) ∧ (0 ≤ y ∧ y < 256 ^ 4) ∧ (0 ≤ z ∧ z < 256 ^ 4) := by
  have h3 := num_step' (m := PW.num 4 (PW.num 4 (PW.num 1 (PW.init 13) 3) x) y) (k := 4) (x := z) h
  have h2 := num_step' h3.1
  have h1 := num_step' h2.1
  refine ⟨?_, h1.2.1, h2.2.1, h3.2.1⟩
  unfold PW.said
  rw [if_pos h]
  show (PW.num 4 (PW.num 4 (PW.num 4 (PW.num 1 (PW.init 13) 3) x) y) z).out = _
  rw [h3.2.2, h2.2.2, h1.2.2]
  show ((be 1 3 ++ be 4 x) ++ be 4 y) ++ be 4 z = _
  simp only [List.append_assoc]
def BR3' (l : List UInt8) (x y z : Int) : Prop := bGood l ∧ (ra l).1 = x ∧ (rb l).1 = y ∧ (rc l).1 = z
theorem bBack {x y z : Int} (h : (bM x y z).e = 0) : BR3' (bM x y z).said x y z := by
  obtain ⟨hs, hx, hy, hz⟩ := bM_out h
  have k1 : rk (bM x y z).said = (3, PR.mk 0 (be 4 x ++ (be 4 y ++ be 4 z))) := by
    unfold rk
    rw [hs]
    exact read_num' 1 (.inl rfl) 3 (by decide) _
  have k2 : ra (bM x y z).said = (x, PR.mk 0 (be 4 y ++ be 4 z)) := by
    unfold ra
    rw [k1]
    exact read_num' 4 (.inr rfl) x hx _
  have k3 : rb (bM x y z).said = (y, PR.mk 0 (be 4 z)) := by
    unfold rb
    rw [k2]
    exact read_num' 4 (.inr rfl) y hy _
  have k4 : rc (bM x y z).said = (z, PR.mk 0 []) := by
    unfold rc
    rw [k3]
    have := read_num' 4 (.inr rfl) z hz []
    rwa [List.append_nil] at this
  exact ⟨⟨by rw [k1], by rw [k4]; rfl⟩, by rw [k2], by rw [k3], by rw [k4]⟩
theorem bFwd {l : List UInt8} (h : bGood l) (hl : l.length ≤ 140737488355328) : (bM (ra l).1 (rb l).1 (rc l).1).e = 0 ∧ (bM (ra l).1 (rb l).1 (rc l).1).said = l := by
  have hlim : (PW.init (l.length : Int)).lim = l.length := by simp only [PW.init]; omega
  have j0 : J l (PR.mk 0 l) (PW.init l.length) := ⟨.inl rfl, fun r => ⟨by omega, by omega, .inl ⟨by omega, by simp [PW.init]⟩⟩, hlim, hl, fun _ => ⟨rfl, rfl⟩⟩
  have j1 : J l (rk l).2 (PW.num 1 (PW.init l.length) (rk l).1) := only_num 1 (.inl rfl) j0
  rw [h.1] at j1
  have hW1 : (PW.num 1 (PW.init (l.length : Int)) 3).lim = l.length := j1.2.2.1
  generalize hw : PW.num 1 (PW.init (l.length : Int)) 3 = W1 at j1 hW1
  have j2 : J l (ra l).2 (PW.num 4 W1 (ra l).1) := only_num 4 (.inr (.inr rfl)) j1
  generalize hw2 : PW.num 4 W1 (ra l).1 = W2 at j2
  have j3 : J l (rb l).2 (PW.num 4 W2 (rb l).1) := only_num 4 (.inr (.inr rfl)) j2
  generalize hw3 : PW.num 4 W2 (rb l).1 = W3 at j3
  have j4 : J l (rc l).2 (PW.num 4 W3 (rc l).1) := only_num 4 (.inr (.inr rfl)) j3
  generalize hw4 : PW.num 4 W3 (rc l).1 = W4 at j4
  have hfin : (rc l).2.e = 0 ∧ (rc l).2.s = [] := by
    have h2 := h.2
    unfold PR.fin at h2
    by_cases hc : (rc l).2.e = 0 ∧ (rc l).2.s ≠ []
    · rw [if_pos hc] at h2; omega
    · rw [if_neg hc] at h2
      exact ⟨h2, by
        by_cases hs : (rc l).2.s = []
        · exact hs
        · exact absurd ⟨h2, hs⟩ hc⟩
  obtain ⟨w1, w2⟩ := j4.2.2.2.2 hfin.1
  rw [hfin.2, List.append_nil] at w2
  rw [← hw4] at w1 w2
  have s3 := num_step' w1
  rw [s3.2.2] at w2
  have w3 := s3.1
  rw [← hw3] at w3 w2
  have s2 := num_step' w3
  rw [s2.2.2] at w2
  have w5 := s2.1
  rw [← hw2] at w5 w2
  have s1 := num_step' w5
  rw [s1.2.2] at w2
  have w6 := s1.1
  rw [← hw] at w6 w2
  have s0 := num_step' w6
  rw [s0.2.2] at w2
  have hlen : l.length = 13 := by
    have := congrArg List.length w2
    simp only [List.length_append, be_length] at this
    have h1 : (PW.init (l.length : Int)).out.length = 0 := rfl
    omega
  have hM : W4 = bM (ra l).1 (rb l).1 (rc l).1 := by
    rw [← hw4, ← hw3, ← hw2, ← hw, hlen]
    rfl
  have e : (bM (ra l).1 (rb l).1 (rc l).1).e = 0 := by rw [← hM, ← hw4]; exact w1
  refine ⟨e, ?_⟩
  have h1 : (PW.init (l.length : Int)).out = [] := rfl
  rw [h1] at w2
  simp only [List.nil_append, List.append_assoc] at w2
  rw [(bM_out e).1]
  exact w2
theorem head_s {h : Q4} {l : List UInt8} (g : sGood h l) : ((l.getD 0 0).toNat : Int) = 1 := g.2.1
theorem head_o {h : Q4} {l : List UInt8} (g : oGood h l) : ((l.getD 0 0).toNat : Int) = 2 := g.2.1
theorem head_b {l : List UInt8} (g : bGood l) : ((l.getD 0 0).toNat : Int) = 3 := by
  have h1 := g.1
  unfold rk at h1
  cases l with
  | nil => exact absurd h1 (by decide)
  | cons c t =>
    rw [num_good _ 1 rfl (by simp)] at h1
    simpa [numOf] using h1
end Go.Proofs.Ytdnpofigagdabaa
