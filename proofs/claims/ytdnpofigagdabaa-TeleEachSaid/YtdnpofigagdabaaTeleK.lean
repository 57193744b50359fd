/- Statuses and orders of a payload, as the document has them. -/
import Derived.Test.YtdnpofigagdabaaTeleJ
namespace Go.Proofs.Ytdnpofigagdabaa
open Go.RowKit Go.BK

theorem tpart_le (l : List UInt8) (o n : Nat) : (tpart l o n).length ≤ n := by simp [tpart]; omega
theorem tpart_end (l : List UInt8) (o n k : Nat) (h : l.length ≤ o + k) (hk : k ≤ n) : tpart l o n = tpart l o k := by
  unfold tpart
  rw [List.take_of_length_le (by simp; omega), List.take_of_length_le (by simp; omega)]
theorem rtake_spec (l : List UInt8) (o n : Nat) (w : World) (S : BSet) (hS : (sepL []).sat S w) (hl : l.length ≤ 140737488355328) (ho : o ≤ 140737488355328) (hn : n ≤ 17592186044416) :
    Tri Try.prog 42 #[str l, i64 (o : Int), i64 (n : Int)] w S fun u A => A = [.own 3 1 (u) (tpart l o n).length ((tpart l o n).map i64)] := by
  refine Tri.enter (l := [str l, i64 (o : Int), i64 (n : Int)]) Try.func42 rfl Try.ntmps42 rfl [(0, str l), (1, i64 (o : Int)), (2, i64 (n : Int))] (subA rfl) hS ?_
  repeat first
    | (apply WL.q; exact rfl; exact rfl; exact rfl; (first | (apply EvW.move; exact rfl) | (apply EvW.assign; exact rfl)))
    | refine WC.seq ?_ | refine WC.region ?_ | refine WL.nil ?_ | refine WE.next ?_ | refine WC.block ?_
  refine WC.ownNil 3 1 ?_
  refine WC.loopK (σ := Nat × Value) [0, 1, 2] (fun s => [(7, s.2), (8, i64 ((o : Int) + s.1))]) (fun s => [.own 3 1 (s.2) (tpart l o s.1).length ((tpart l o s.1).map i64)]) (fun s => s.1 ≤ n ∧ (s.1 = 0 ∨ o + s.1 ≤ l.length)) (fun s => n - s.1) (0, .slice none 0 0) (by (focus ((repeat (first | exact Pick.nil | (apply Pick.cons; exact rfl))); done))) (by (focus ((repeat (first | exact trivial | (refine ⟨rfl, ?_⟩))); done))) (fun _ h => h.keep (by (focus ((repeat (first | exact TakeL.nil | apply TakeL.cons | exact Take.head | apply Take.tail)); done)))) ⟨Nat.zero_le _, .inl rfl⟩ (fun s hs => ?_)
  obtain ⟨k, v⟩ := s
  simp only [List.cons_append, List.nil_append] at hs ⊢
  obtain ⟨hs, hol⟩ := hs
  by_cases hkn : k = n
  · subst hkn
    repeat first
      | (apply WL.q; exact rfl; exact rfl; exact rfl; (first | (apply EvW.move; exact rfl) | (apply EvW.assign; exact rfl) | (apply EvW.cmpF; exact rfl; exact rfl; exact rfl; omega) | (apply EvW.arN; exact rfl; exact rfl; exact rfl; refine i64_in ?_ ?_ <;> omega) | (apply EvW.pickF; exact rfl; exact rfl)))
      | refine WC.seq ?_ | refine WC.region ?_ | refine WL.nil ?_ | refine WE.next ?_ | refine WC.exit ?_ | refine WE.pass ?_ | refine WE.hit ?_ | refine WC.condF rfl ?_ | refine WC.ret ?_ | refine WL.unwanted rfl rfl rfl rfl ?_
    refine WE.ret1 rfl rfl ?_
    exact rfl
  · by_cases hlt : (o : Int) + k < l.length
    · have hpl := tpart_length l o k (by omega)
      have hb := (l.getD (o + k) 0).toNat_lt
      have hidx : ((o : Int) + k).toNat = o + k := by omega
      repeat first
        | (apply WL.q; exact rfl; exact rfl; exact rfl; (first | (apply EvW.move; exact rfl) | (apply EvW.lenS; exact rfl; exact UndC.eq) | (apply EvW.cmpT; exact rfl; exact rfl; exact rfl; omega) | (apply EvW.arN; exact rfl; exact rfl; exact rfl; refine i64_in ?_ ?_ <;> omega) | (apply EvW.conv; exact rfl; exact UndC.eq; exact UndC.eq) | (apply EvW.pickT; exact rfl; exact rfl) | (apply EvW.index; exact rfl; exact rfl; exact UndC.eq; omega; omega)))
        | refine WC.seq ?_ | refine WC.region ?_ | refine WL.nil ?_ | refine WE.next ?_ | refine WC.block ?_ | refine WC.skip ?_ | refine WC.condT rfl ?_ | refine WL.wanted rfl rfl rfl ?_
      try refine WL.wanted rfl rfl rfl ?_
      (apply WL.buildSlice; exact rfl; exact UndC.eq; exact SzC.eq; exact ZvC.eq; exact rfl; exact rfl; exact rfl; ((focus ((repeat (first | exact Flat.nil | (apply Flat.one; (first | exact rfl | assumption)) | (apply Flat.cons; exact rfl; exact rfl))); done))); exact rfl; exact rfl; intro c1)
      try refine WL.wanted rfl rfl rfl ?_
      (apply WL.append; exact rfl; exact rfl; exact rfl; exact UndC.eq; exact SzC.eq; exact ByC.eq; exact ZvC.eq; exact rfl; (first | exact notInt_sl UndC.eq | exact notInt_st UndC.eq); exact rfl; (focus ((repeat (first | exact Take.head | apply Take.tail)); done)))
      · exact adds_blk .head rfl rfl
      · (omega)
      intro v2
      refine WL.ownEq (cs' := (tpart l o (k + 1)).map i64) (len' := (tpart l o (k + 1)).length) .head (by rw [tpart_length l o (k + 1) (by omega)]; omega) (by rw [tpart_succ l o k (by omega), hidx, List.map_append]; rw [wrap_in IntKind.i64 (i64_in (by omega) (by omega))]; rfl) ?_
      repeat first
        | (apply WL.q; exact rfl; exact rfl; exact rfl; (first | (apply EvW.move; exact rfl) | (apply EvW.assign; exact rfl) | (apply EvW.arN; exact rfl; exact rfl; exact rfl; refine i64_in ?_ ?_ <;> omega)))
        | refine WC.region ?_ | refine WL.nil ?_ | refine WE.next ?_ | refine WE.out ?_
      rw [show (o : Int) + k + 1 = (o : Int) + ((k + 1 : Nat) : Int) from by omega]
      exact WE.again (s := (k, v)) ((k + 1, v2)) ⟨by simp only []; omega, .inr (by simp only []; omega)⟩ (by (focus ((repeat (first | exact trivial | (refine ⟨rfl, ?_⟩))); done))) (fun _ h => (by (try simp only []); exact h.keep (by (focus ((repeat (first | exact TakeL.nil | apply TakeL.cons | exact Take.head | apply Take.tail)); done))))) (by (try simp only []); omega)
    · rw [← tpart_end l o n k (by omega) (by omega)]
      repeat first
        | (apply WL.q; exact rfl; exact rfl; exact rfl; (first | (apply EvW.move; exact rfl) | (apply EvW.assign; exact rfl) | (apply EvW.lenS; exact rfl; exact UndC.eq) | (apply EvW.cmpT; exact rfl; exact rfl; exact rfl; omega) | (apply EvW.cmpF; exact rfl; exact rfl; exact rfl; omega) | (apply EvW.arN; exact rfl; exact rfl; exact rfl; refine i64_in ?_ ?_ <;> omega) | (apply EvW.pickT; exact rfl; exact rfl)))
        | refine WC.seq ?_ | refine WC.region ?_ | refine WL.nil ?_ | refine WE.next ?_ | refine WC.exit ?_ | refine WE.pass ?_ | refine WE.hit ?_ | refine WC.condF rfl ?_ | refine WC.ret ?_ | refine WL.wanted rfl rfl rfl ?_
      refine WE.ret1 rfl rfl ?_
      exact rfl
theorem be1_byte (c : UInt8) : be 1 (c.toNat : Int) = [c] := by
  rw [be1]
  unfold bytOf
  have h := c.toNat_lt
  rw [wrap_in IntKind.u8 (by simp only [IntKind.min, IntKind.max, IntKind.signed, IntKind.bits, Bool.false_eq_true, ↓reduceIte]; omega)]
  simp
theorem tpart_flat (l : List UInt8) (o n : Nat) : (tpart l o n).flatMap (be 1) = (l.drop o).take n := by
  unfold tpart
  generalize (l.drop o).take n = m
  induction m with
  | nil => rfl
  | cons c m ih => rw [List.map_cons, List.flatMap_cons, be1_byte, ih]; rfl
theorem byte_head (l : List UInt8) (k : Int) (hk : 0 ≤ k ∧ k < 256) (h0 : 0 < l.length) (h : ((l.getD 0 0).toNat : Int) = k) : l.take 1 = be 1 k := by
  cases l with
  | nil => simp at h0
  | cons c t =>
    simp at h
    rw [← h, be1_byte]
    simp
theorem cat4 (l : List UInt8) (n0 n1 n2 n3 : Nat) (h : l.length = 1 + n0 + n1 + n2 + n3) : l = l.take 1 ++ ((l.drop 1).take n0 ++ ((l.drop (1 + n0)).take n1 ++ ((l.drop (1 + n0 + n1)).take n2 ++ ((l.drop (1 + n0 + n1 + n2)).take n3 ++ [])))) := by
  rw [List.append_nil, List.take_of_length_le (i := n3) (by simp; omega)]
  rw [← List.drop_drop (i := n2), List.take_append_drop, ← List.drop_drop (i := n1), List.take_append_drop, ← List.drop_drop (i := n0), List.take_append_drop, List.take_append_drop]
theorem cat3 (l : List UInt8) (n0 n1 n2 : Nat) (h : l.length = 1 + n0 + n1 + n2) : l = l.take 1 ++ ((l.drop 1).take n0 ++ ((l.drop (1 + n0)).take n1 ++ ((l.drop (1 + n0 + n1)).take n2 ++ []))) := by
  rw [List.append_nil, List.take_of_length_le (i := n2) (by simp; omega)]
  rw [← List.drop_drop (i := n1), List.take_append_drop, ← List.drop_drop (i := n0), List.take_append_drop, List.take_append_drop]
/-- The status that the bytes would say. -/
def sOf (h : Q4) (l : List UInt8) (a b y d : Value) : Q4 := ⟨a, b, y, d, tpart l 1 h.la.length, tpart l (1 + h.la.length) h.lb.length, tpart l (1 + h.la.length + h.lb.length) h.ly.length, tpart l (1 + h.la.length + h.lb.length + h.ly.length) h.ld.length⟩
def oOf (h : Q4) (l : List UInt8) (a b y : Value) : Q3 := ⟨a, b, y, tpart l 1 h.lb.length, tpart l (1 + h.lb.length) h.ld.length, tpart l (1 + h.lb.length + h.ld.length) h.ly.length⟩
theorem okF_iff {l : List Int} {n : Nat} {m : Int} : okF l n m = true ↔ l.length = n ∧ l.all (inTo m) = true := by
  unfold okF
  rw [Bool.and_eq_true, decide_eq_true_eq]
  constructor
  · rintro ⟨h1, h2⟩; exact ⟨by omega, h2⟩
  · rintro ⟨h1, h2⟩; exact ⟨by omega, h2⟩
theorem sOk_iff {h s : Q4} : sOk h s = true ↔ okF s.la h.la.length 1 = true ∧ okF s.lb h.lb.length 2 = true ∧ okF s.ly h.ly.length 1 = true ∧ okF s.ld h.ld.length 1 = true := by
  unfold sOk
  simp only [Bool.and_eq_true, Bool.and_true]
theorem oOk_iff {h : Q4} {s : Q3} : oOk h s = true ↔ okF s.la h.lb.length 2 = true ∧ okF s.lb h.ld.length 2 = true ∧ okF s.ly h.ly.length 1 = true := by
  unfold oOk
  simp only [Bool.and_eq_true, Bool.and_true]
theorem sGood_iff (h : Q4) (l : List UInt8) (a b y d : Value) : sGood h l ↔ sOk h (sOf h l a b y d) = true ∧ sPay (sOf h l a b y d) = l := by
  rw [sOk_iff]
  constructor
  · rintro ⟨hl, hk, g0, g1, g2, g3⟩
    refine ⟨⟨okF_iff.2 ⟨tpart_length _ _ _ (by omega), g0⟩, okF_iff.2 ⟨tpart_length _ _ _ (by omega), g1⟩, okF_iff.2 ⟨tpart_length _ _ _ (by omega), g2⟩, okF_iff.2 ⟨tpart_length _ _ _ (by omega), g3⟩⟩, ?_⟩
    unfold sPay sOf
    simp only [tpart_flat]
    rw [← byte_head l 1 (by decide) (by omega) hk]
    exact (cat4 l _ _ _ _ hl).symm
  · rintro ⟨⟨o0, o1, o2, o3⟩, hp⟩
    have p0 := okF_iff.1 o0
    have p1 := okF_iff.1 o1
    have p2 := okF_iff.1 o2
    have p3 := okF_iff.1 o3
    have hlen := congrArg List.length hp
    unfold sPay at hlen
    simp only [List.length_append, flat1_len, be_length, List.length_nil] at hlen
    refine ⟨by omega, ?_, p0.2, p1.2, p2.2, p3.2⟩
    rw [← hp]
    rfl
theorem oGood_iff (h : Q4) (l : List UInt8) (a b y : Value) : oGood h l ↔ oOk h (oOf h l a b y) = true ∧ oPay (oOf h l a b y) = l := by
  rw [oOk_iff]
  constructor
  · rintro ⟨hl, hk, g0, g1, g2⟩
    refine ⟨⟨okF_iff.2 ⟨tpart_length _ _ _ (by omega), g0⟩, okF_iff.2 ⟨tpart_length _ _ _ (by omega), g1⟩, okF_iff.2 ⟨tpart_length _ _ _ (by omega), g2⟩⟩, ?_⟩
    unfold oPay oOf
    simp only [tpart_flat]
    rw [← byte_head l 2 (by decide) (by omega) hk]
    exact (cat3 l _ _ _ hl).symm
  · rintro ⟨⟨o0, o1, o2⟩, hp⟩
    have p0 := okF_iff.1 o0
    have p1 := okF_iff.1 o1
    have p2 := okF_iff.1 o2
    have hlen := congrArg List.length hp
    unfold oPay at hlen
    simp only [List.length_append, flat1_len, be_length, List.length_nil] at hlen
    refine ⟨by omega, ?_, p0.2, p1.2, p2.2⟩
    rw [← hp]
    rfl
end Go.Proofs.Ytdnpofigagdabaa
