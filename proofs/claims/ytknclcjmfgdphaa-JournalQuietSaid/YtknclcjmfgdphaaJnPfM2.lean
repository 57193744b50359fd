/- Own lemmas: the texts PackB, PackC, PackD, PackF, PackH, PackJ, PackL, LibM, LibN, Crc, SealA, Shelf, LibP, LibQ, SealB, SealC, PackN, SealD, LibU, LibR, LibS, LibT, LibV, LibW. -/
import Derived.Deep.Slices
import Derived.JoinedCond
import Derived.MapKept
import Derived.OpenShut
import Derived.Shelf.Bits.Mul64
import Derived.Shelf.Strings.Builder1
import Derived.Shelf.Strings.Builder2
import Derived.Shelf.Strings.BuilderF
import Derived.Shelf.Strings.OnBuilder
import Derived.Shelf.Strings.Prefix
import Derived.Shelf.Strings.Repeat
import Derived.Test.YtknclcjmfgdphaaProg
import Derived.Test.YtknclcjmfgdphaaRows
import Derived.Test.YtknclcjmfgdphaaJnPfM1
namespace Go.Proofs.Ytknclcjmfgdphaa
open Go.RowKit Go.BK
/-- A number's bytes, from the highest. -/
def be (k : Nat) (n : Int) : List UInt8 := (List.range k).map fun j => bytOf (n.fdiv (2 ^ (8 * (k - 1 - j))))
theorem be_length (k : Nat) (n : Int) : (be k n).length = k := by simp [be]
theorem be_take {k j : Nat} {n : Int} (h : j < k) : (be k n).take (j + 1) = (be k n).take j ++ [bytOf (n.fdiv (2 ^ (8 * (k - 1 - j))))] := by
  rw [List.take_add_one, List.getElem?_eq_getElem (by rw [be_length]; exact h)]
  simp [be]
def PW.num (k : Nat) (m : PW) (n : Int) : PW := (if n < 0 ∨ n.fdiv (2 ^ (8 * k)) ≠ 0 then m.note 32 else m).put (be k n)
def PW.text (m : PW) (s : List UInt8) : PW := (if 255 < s.length then m.note 32 else m).put (bytOf s.length :: s)
theorem PW.fits.num {k : Nat} {m : PW} {n : Int} {r : Nat} (h : m.fits (k + r)) : (m.num k n).fits r := by
  unfold PW.num
  refine PW.fits.put ?_
  rw [be_length]; split <;> exact h
theorem PW.fits.text {m : PW} {s : List UInt8} {r : Nat} (h : m.fits (s.length + 1 + r)) : (m.text s).fits r := by
  unfold PW.text
  refine PW.fits.put ?_
  simp only [List.length_cons]; split <;> exact h
theorem foldl_take {α β : Type} (f : β → α → β) (l : List α) (z : α) (b : β) (k : Nat) (h : k < l.length) : (l.take (k + 1)).foldl f b = f ((l.take k).foldl f b) (l.getD k z) := by
  rw [List.take_add_one, List.getElem?_eq_getElem h, List.foldl_append]
  simp [List.getD_eq_getElem?_getD, List.getElem?_eq_getElem h]
theorem fixed_spec (kk b : Nat) (hk : 1 ≤ kk) (hk4 : kk ≤ 4) (v lv : Value) (m : PW) (xs : List Int) (w : World) (S : BSet) (hS : (sepL [.own 5 1 v m.out.length (m.out.map byt), .blk b #[i64 m.e, v, i64 m.lim] 130]).sat S w)
    (hx : Sees w S (.row 1 lv xs.length (xs.map i64))) (hr : m.fits (xs.map fun _ => kk).sum) (hxb : xs.length ≤ 1152921504606846976) :
    Tri Try.prog 63 #[ptr b 0, i64 (8 * (kk : Int)), lv] w S fun u A => u = .tuple #[] ∧ ∃ v', A = [.own 5 1 v' (xs.foldl (PW.num kk) m).out.length ((xs.foldl (PW.num kk) m).out.map byt), .blk b #[i64 (xs.foldl (PW.num kk) m).e, v', i64 (xs.foldl (PW.num kk) m).lim] 130] := by
  refine Tri.enter (l := [ptr b 0, i64 (8 * (kk : Int)), lv]) Try.func63 rfl Try.ntmps63 rfl [(0, ptr b 0), (1, i64 (8 * (kk : Int))), (2, lv)] (subA rfl) hS ?_
  repeat first
    | (apply WL.q; exact rfl; exact rfl; exact rfl; (first | (apply EvW.move; exact rfl) | (apply EvW.assign; exact rfl) | (apply EvW.nilPtr; exact rfl) | (apply EvW.fieldAddr0; exact rfl; exact FldC.eq) | (apply EvW.fieldAddr; exact rfl; exact FldC.eq) | (apply EvW.load; exact rfl; exact ScalC.eq; (focus ((repeat constructor); done)); exact rfl) | (apply EvW.lenL; exact rfl; exact UndC.eq) | (apply EvW.cmpT; exact rfl; exact rfl; exact rfl; omega) | (apply EvW.cmpF; exact rfl; exact rfl; exact rfl; omega) | (apply EvW.cmp; exact rfl; exact rfl; exact rfl) | (apply EvW.arN; exact rfl; exact rfl; exact rfl; (first | (refine i64_in ?_ ?_ <;> omega) | (constructor <;> simp only [IntKind.min, IntKind.max, IntKind.signed, IntKind.bits, ↓reduceIte, Bool.false_eq_true] <;> omega))) | (apply EvW.ar; exact rfl; exact rfl; exact rfl) | (apply EvW.convN; exact rfl; exact UndC.eq; exact UndC.eq; (first | (refine i64_in ?_ ?_ <;> omega) | (constructor <;> simp only [IntKind.min, IntKind.max, IntKind.signed, IntKind.bits, ↓reduceIte, Bool.false_eq_true] <;> omega))) | (apply EvW.convW; exact rfl; exact UndC.eq; exact UndC.eq; exact of_decide_eq_true rfl) | (apply EvW.conv; exact rfl; exact UndC.eq; exact UndC.eq) | (apply EvW.pickT; exact rfl; exact rfl) | (apply EvW.pickF; exact rfl; exact rfl) | (apply EvW.shr; exact rfl; exact rfl; omega) | (apply EvW.lenRow; exact rfl; exact UndC.eq; assumption) | (apply EvW.lenOwn; exact rfl; exact UndC.eq; (focus ((repeat constructor); done))) | (apply EvW.idxRow; exact rfl; exact rfl; exact UndC.eq; exact SzC.eq; assumption; omega; omega) | (apply EvW.idxOwn; exact rfl; exact rfl; exact UndC.eq; exact SzC.eq; (focus ((repeat constructor); done)); omega; omega) | (apply EvW.ldInt; exact rfl; exact ScalC.eq; assumption; omega) | (apply EvW.ldIntOwn; exact rfl; exact ScalC.eq; (focus ((repeat constructor); done)); omega) | (apply EvW.fldRow; exact rfl; exact FldC.eq; assumption; omega) | (apply EvW.fldOwn; exact rfl; exact FldC.eq; (focus ((repeat constructor); done)); omega)))
    | refine WC.seq ?_ | refine WC.region ?_ | refine WL.nil ?_ | refine WE.next ?_ | refine WC.block ?_ | refine WC.skip ?_ | refine WC.exit ?_ | refine WE.pass ?_ | refine WE.hit ?_ | refine WE.miss rfl ?_ | refine WE.out ?_ | refine WC.condT rfl ?_ | refine WC.condF rfl ?_ | refine WC.ret ?_ | refine WE.passRet ?_ | refine WE.outRet ?_ | refine WL.wanted rfl rfl rfl ?_ | refine WL.unwanted rfl rfl rfl rfl ?_ | refine WL.unwantedU rfl rfl rfl rfl ?_ | refine WL.unwanted0 rfl rfl rfl ?_
  refine WC.loop (σ := Nat × Value) (fun s => [(12, i64 s.1), (11, i64 xs.length), (10, lv), (0, ptr b 0), (1, i64 (8 * (kk : Int)))])
    (fun s => [.own 5 1 s.2 ((xs.take s.1).foldl (PW.num kk) m).out.length (((xs.take s.1).foldl (PW.num kk) m).out.map byt), .blk b #[i64 ((xs.take s.1).foldl (PW.num kk) m).e, s.2, i64 ((xs.take s.1).foldl (PW.num kk) m).lim] 130])
    (fun s => s.1 ≤ xs.length) (fun s => xs.length - s.1) (0, v) ⟨rfl, rfl, rfl, rfl, rfl, trivial⟩ (fun _ h => h) (Nat.zero_le _) (fun s hs => ?_)
  obtain ⟨i, v1⟩ := s
  simp only [] at hs ⊢
  by_cases hlt : (i : Int) < xs.length
  · have hfold := foldl_take (PW.num kk) xs 0 m i (by omega)
    have hfit := hr.fold (f := PW.num kk) (g := fun _ => kk) (fun m x r h => h.num) xs i
    rw [drop_sum _ xs 0 i (by omega)] at hfit
    generalize (xs.take i).foldl (PW.num kk) m = M at hfold hfit
    have hgd : xs.getD ((i : Nat) : Int).toNat 0 = xs.getD i 0 := rfl
    generalize hX : xs.getD ((i : Nat) : Int).toNat 0 = X at hgd
    rw [← hgd] at hfold
    obtain ⟨M1, hM1⟩ : ∃ M1 : PW, (if X < 0 ∨ X.fdiv (2 ^ (8 * kk)) ≠ 0 then M.note 32 else M) = M1 := ⟨_, rfl⟩
    have hnum : M.num kk X = M1.put (be kk X) := by unfold PW.num; rw [hM1]
    have hM1o : M1.out = M.out := by rw [← hM1]; split <;> rfl
    have hM1l : M1.lim = M.lim := by rw [← hM1]; split <;> rfl
    have hsh : min (8 * (kk : Int)).toNat IntKind.i64.bits = 8 * kk := by simp only [IntKind.bits]; omega
    have hcase : X < 0 ∨ (¬ X < 0 ∧ ¬ X.fdiv (2 ^ (min (8 * (kk : Int)).toNat IntKind.i64.bits)) = 0) ∨ (¬ X < 0 ∧ X.fdiv (2 ^ (min (8 * (kk : Int)).toNat IntKind.i64.bits)) = 0) := by
      by_cases h2 : X < 0
      · exact .inl h2
      · by_cases h3 : X.fdiv (2 ^ (min (8 * (kk : Int)).toNat IntKind.i64.bits)) = 0
        · exact .inr (.inr ⟨h2, h3⟩)
        · exact .inr (.inl ⟨h2, h3⟩)
    rcases hcase with hn | ⟨hn, hs2⟩ | ⟨hn, hs2⟩
    have hM : M1 = M.note 32 := by rw [← hM1, if_pos (.inl hn)]
    rw [← hX] at hn
    repeat first
      | (apply WL.q; exact rfl; exact rfl; exact rfl; (first | (apply EvW.move; exact rfl) | (apply EvW.assign; exact rfl) | (apply EvW.nilPtr; exact rfl) | (apply EvW.fieldAddr0; exact rfl; exact FldC.eq) | (apply EvW.fieldAddr; exact rfl; exact FldC.eq) | (apply EvW.load; exact rfl; exact ScalC.eq; (focus ((repeat constructor); done)); exact rfl) | (apply EvW.lenL; exact rfl; exact UndC.eq) | (apply EvW.cmpT; exact rfl; exact rfl; exact rfl; omega) | (apply EvW.cmpF; exact rfl; exact rfl; exact rfl; omega) | (apply EvW.cmp; exact rfl; exact rfl; exact rfl) | (apply EvW.arN; exact rfl; exact rfl; exact rfl; (first | (refine i64_in ?_ ?_ <;> omega) | (constructor <;> simp only [IntKind.min, IntKind.max, IntKind.signed, IntKind.bits, ↓reduceIte, Bool.false_eq_true] <;> omega))) | (apply EvW.ar; exact rfl; exact rfl; exact rfl) | (apply EvW.convN; exact rfl; exact UndC.eq; exact UndC.eq; (first | (refine i64_in ?_ ?_ <;> omega) | (constructor <;> simp only [IntKind.min, IntKind.max, IntKind.signed, IntKind.bits, ↓reduceIte, Bool.false_eq_true] <;> omega))) | (apply EvW.convW; exact rfl; exact UndC.eq; exact UndC.eq; exact of_decide_eq_true rfl) | (apply EvW.conv; exact rfl; exact UndC.eq; exact UndC.eq) | (apply EvW.pickT; exact rfl; exact rfl) | (apply EvW.pickF; exact rfl; exact rfl) | (apply EvW.shr; exact rfl; exact rfl; omega) | (apply EvW.lenRow; exact rfl; exact UndC.eq; assumption) | (apply EvW.lenOwn; exact rfl; exact UndC.eq; (focus ((repeat constructor); done))) | (apply EvW.idxRow; exact rfl; exact rfl; exact UndC.eq; exact SzC.eq; assumption; omega; omega) | (apply EvW.idxOwn; exact rfl; exact rfl; exact UndC.eq; exact SzC.eq; (focus ((repeat constructor); done)); omega; omega) | (apply EvW.ldInt; exact rfl; exact ScalC.eq; assumption; omega) | (apply EvW.ldIntOwn; exact rfl; exact ScalC.eq; (focus ((repeat constructor); done)); omega) | (apply EvW.fldRow; exact rfl; exact FldC.eq; assumption; omega) | (apply EvW.fldOwn; exact rfl; exact FldC.eq; (focus ((repeat constructor); done)); omega)))
      | refine WC.seq ?_ | refine WC.region ?_ | refine WL.nil ?_ | refine WE.next ?_ | refine WC.block ?_ | refine WC.skip ?_ | refine WC.exit ?_ | refine WE.pass ?_ | refine WE.hit ?_ | refine WE.miss rfl ?_ | refine WE.out ?_ | refine WC.condT rfl ?_ | refine WC.condF rfl ?_ | refine WC.ret ?_ | refine WE.passRet ?_ | refine WE.outRet ?_ | refine WL.wanted rfl rfl rfl ?_ | refine WL.unwanted rfl rfl rfl rfl ?_ | refine WL.unwantedU rfl rfl rfl rfl ?_ | refine WL.unwanted0 rfl rfl rfl ?_
    try refine WL.wanted rfl rfl rfl ?_
    apply WL.callT
    · exact rfl
    · exact rfl
    · exact fun w1 S1 hS1 hs1 ho1 => note_spec b 130 M.e 32 [v1, i64 M.lim] M1.e (by rw [hM]; rfl) w1 S1 hS1
    · exact fun w => Try.call80 _ w
    · (focus ((repeat constructor); done))
    rintro _ _ ⟨rfl, rfl⟩
    first | refine WL.app4 ?_ | refine WL.app3 ?_ | refine WL.app2 ?_ | refine WL.app1 ?_ | refine WL.app0 ?_ | skip
    rw [← hM1o, ← hM1l]
    rotate_left
    have hM : M1 = M.note 32 := by rw [← hM1, if_pos (.inr (by rw [hsh] at hs2; exact hs2))]
    rw [← hX] at hn hs2
    repeat first
      | (apply WL.q; exact rfl; exact rfl; exact rfl; (first | (apply EvW.move; exact rfl) | (apply EvW.assign; exact rfl) | (apply EvW.nilPtr; exact rfl) | (apply EvW.fieldAddr0; exact rfl; exact FldC.eq) | (apply EvW.fieldAddr; exact rfl; exact FldC.eq) | (apply EvW.load; exact rfl; exact ScalC.eq; (focus ((repeat constructor); done)); exact rfl) | (apply EvW.lenL; exact rfl; exact UndC.eq) | (apply EvW.cmpT; exact rfl; exact rfl; exact rfl; omega) | (apply EvW.cmpF; exact rfl; exact rfl; exact rfl; omega) | (apply EvW.cmp; exact rfl; exact rfl; exact rfl) | (apply EvW.arN; exact rfl; exact rfl; exact rfl; (first | (refine i64_in ?_ ?_ <;> omega) | (constructor <;> simp only [IntKind.min, IntKind.max, IntKind.signed, IntKind.bits, ↓reduceIte, Bool.false_eq_true] <;> omega))) | (apply EvW.ar; exact rfl; exact rfl; exact rfl) | (apply EvW.convN; exact rfl; exact UndC.eq; exact UndC.eq; (first | (refine i64_in ?_ ?_ <;> omega) | (constructor <;> simp only [IntKind.min, IntKind.max, IntKind.signed, IntKind.bits, ↓reduceIte, Bool.false_eq_true] <;> omega))) | (apply EvW.convW; exact rfl; exact UndC.eq; exact UndC.eq; exact of_decide_eq_true rfl) | (apply EvW.conv; exact rfl; exact UndC.eq; exact UndC.eq) | (apply EvW.pickT; exact rfl; exact rfl) | (apply EvW.pickF; exact rfl; exact rfl) | (apply EvW.shr; exact rfl; exact rfl; omega) | (apply EvW.lenRow; exact rfl; exact UndC.eq; assumption) | (apply EvW.lenOwn; exact rfl; exact UndC.eq; (focus ((repeat constructor); done))) | (apply EvW.idxRow; exact rfl; exact rfl; exact UndC.eq; exact SzC.eq; assumption; omega; omega) | (apply EvW.idxOwn; exact rfl; exact rfl; exact UndC.eq; exact SzC.eq; (focus ((repeat constructor); done)); omega; omega) | (apply EvW.ldInt; exact rfl; exact ScalC.eq; assumption; omega) | (apply EvW.ldIntOwn; exact rfl; exact ScalC.eq; (focus ((repeat constructor); done)); omega) | (apply EvW.fldRow; exact rfl; exact FldC.eq; assumption; omega) | (apply EvW.fldOwn; exact rfl; exact FldC.eq; (focus ((repeat constructor); done)); omega)))
      | refine WC.seq ?_ | refine WC.region ?_ | refine WL.nil ?_ | refine WE.next ?_ | refine WC.block ?_ | refine WC.skip ?_ | refine WC.exit ?_ | refine WE.pass ?_ | refine WE.hit ?_ | refine WE.miss rfl ?_ | refine WE.out ?_ | refine WC.condT rfl ?_ | refine WC.condF rfl ?_ | refine WC.ret ?_ | refine WE.passRet ?_ | refine WE.outRet ?_ | refine WL.wanted rfl rfl rfl ?_ | refine WL.unwanted rfl rfl rfl rfl ?_ | refine WL.unwantedU rfl rfl rfl rfl ?_ | refine WL.unwanted0 rfl rfl rfl ?_
    try refine WL.wanted rfl rfl rfl ?_
    apply WL.callT
    · exact rfl
    · exact rfl
    · exact fun w1 S1 hS1 hs1 ho1 => note_spec b 130 M.e 32 [v1, i64 M.lim] M1.e (by rw [hM]; rfl) w1 S1 hS1
    · exact fun w => Try.call80 _ w
    · (focus ((repeat constructor); done))
    rintro _ _ ⟨rfl, rfl⟩
    first | refine WL.app4 ?_ | refine WL.app3 ?_ | refine WL.app2 ?_ | refine WL.app1 ?_ | refine WL.app0 ?_ | skip
    rw [← hM1o, ← hM1l]
    rotate_left
    have hM : M1 = M := by
      rw [← hM1, if_neg]
      intro h; rw [hsh] at hs2; exact h.elim (fun h => hn h) (fun h => h hs2)
    subst hM
    rw [← hX] at hn hs2
    rotate_left
    all_goals
      repeat first
        | (apply WL.q; exact rfl; exact rfl; exact rfl; (first | (apply EvW.move; exact rfl) | (apply EvW.assign; exact rfl) | (apply EvW.nilPtr; exact rfl) | (apply EvW.fieldAddr0; exact rfl; exact FldC.eq) | (apply EvW.fieldAddr; exact rfl; exact FldC.eq) | (apply EvW.load; exact rfl; exact ScalC.eq; (focus ((repeat constructor); done)); exact rfl) | (apply EvW.lenL; exact rfl; exact UndC.eq) | (apply EvW.cmpT; exact rfl; exact rfl; exact rfl; omega) | (apply EvW.cmpF; exact rfl; exact rfl; exact rfl; omega) | (apply EvW.cmp; exact rfl; exact rfl; exact rfl) | (apply EvW.arN; exact rfl; exact rfl; exact rfl; (first | (refine i64_in ?_ ?_ <;> omega) | (constructor <;> simp only [IntKind.min, IntKind.max, IntKind.signed, IntKind.bits, ↓reduceIte, Bool.false_eq_true] <;> omega))) | (apply EvW.ar; exact rfl; exact rfl; exact rfl) | (apply EvW.convN; exact rfl; exact UndC.eq; exact UndC.eq; (first | (refine i64_in ?_ ?_ <;> omega) | (constructor <;> simp only [IntKind.min, IntKind.max, IntKind.signed, IntKind.bits, ↓reduceIte, Bool.false_eq_true] <;> omega))) | (apply EvW.convW; exact rfl; exact UndC.eq; exact UndC.eq; exact of_decide_eq_true rfl) | (apply EvW.conv; exact rfl; exact UndC.eq; exact UndC.eq) | (apply EvW.pickT; exact rfl; exact rfl) | (apply EvW.pickF; exact rfl; exact rfl) | (apply EvW.shr; exact rfl; exact rfl; omega) | (apply EvW.lenRow; exact rfl; exact UndC.eq; assumption) | (apply EvW.lenOwn; exact rfl; exact UndC.eq; (focus ((repeat constructor); done))) | (apply EvW.idxRow; exact rfl; exact rfl; exact UndC.eq; exact SzC.eq; assumption; omega; omega) | (apply EvW.idxOwn; exact rfl; exact rfl; exact UndC.eq; exact SzC.eq; (focus ((repeat constructor); done)); omega; omega) | (apply EvW.ldInt; exact rfl; exact ScalC.eq; assumption; omega) | (apply EvW.ldIntOwn; exact rfl; exact ScalC.eq; (focus ((repeat constructor); done)); omega) | (apply EvW.fldRow; exact rfl; exact FldC.eq; assumption; omega) | (apply EvW.fldOwn; exact rfl; exact FldC.eq; (focus ((repeat constructor); done)); omega)))
        | refine WC.seq ?_ | refine WC.region ?_ | refine WL.nil ?_ | refine WE.next ?_ | refine WC.block ?_ | refine WC.skip ?_ | refine WC.exit ?_ | refine WE.pass ?_ | refine WE.hit ?_ | refine WE.miss rfl ?_ | refine WE.out ?_ | refine WC.condT rfl ?_ | refine WC.condF rfl ?_ | refine WC.ret ?_ | refine WE.passRet ?_ | refine WE.outRet ?_ | refine WL.wanted rfl rfl rfl ?_ | refine WL.unwanted rfl rfl rfl rfl ?_ | refine WL.unwantedU rfl rfl rfl rfl ?_ | refine WL.unwanted0 rfl rfl rfl ?_
      simp only [hX]
      refine WC.ownNil 5 1 ?_
      refine WC.loop (σ := Nat × Int × Value) (fun s => [(9, i64 s.2.1), (8, s.2.2), (7, i64 X), (12, i64 i), (11, i64 xs.length), (10, lv), (0, ptr b 0), (1, i64 (8 * (kk : Int)))])
        (fun s => [.own 5 1 s.2.2 s.1 (((be kk X).take s.1).map byt), .own 5 1 v1 M1.out.length (M1.out.map byt), .blk b #[i64 M1.e, v1, i64 M1.lim] 130])
        (fun s => s.1 ≤ kk ∧ s.2.1 = 8 * kk - 8 - 8 * s.1) (fun s => kk - s.1) (0, 8 * kk - 8, .slice none 0 0) ⟨rfl, rfl, rfl, rfl, rfl, rfl, rfl, rfl, trivial⟩ (fun _ h => h.keep (by repeat constructor)) ⟨Nat.zero_le _, by simp⟩ (fun s hs => ?_)
      obtain ⟨j, sh, v8⟩ := s
      simp only [] at hs ⊢
      obtain ⟨hj, hsj⟩ := hs
      by_cases hlt2 : 0 ≤ sh
      · repeat first
          | (apply WL.q; exact rfl; exact rfl; exact rfl; (first | (apply EvW.move; exact rfl) | (apply EvW.assign; exact rfl) | (apply EvW.nilPtr; exact rfl) | (apply EvW.fieldAddr0; exact rfl; exact FldC.eq) | (apply EvW.fieldAddr; exact rfl; exact FldC.eq) | (apply EvW.load; exact rfl; exact ScalC.eq; (focus ((repeat constructor); done)); exact rfl) | (apply EvW.lenL; exact rfl; exact UndC.eq) | (apply EvW.cmpT; exact rfl; exact rfl; exact rfl; omega) | (apply EvW.cmpF; exact rfl; exact rfl; exact rfl; omega) | (apply EvW.cmp; exact rfl; exact rfl; exact rfl) | (apply EvW.arN; exact rfl; exact rfl; exact rfl; (first | (refine i64_in ?_ ?_ <;> omega) | (constructor <;> simp only [IntKind.min, IntKind.max, IntKind.signed, IntKind.bits, ↓reduceIte, Bool.false_eq_true] <;> omega))) | (apply EvW.ar; exact rfl; exact rfl; exact rfl) | (apply EvW.convN; exact rfl; exact UndC.eq; exact UndC.eq; (first | (refine i64_in ?_ ?_ <;> omega) | (constructor <;> simp only [IntKind.min, IntKind.max, IntKind.signed, IntKind.bits, ↓reduceIte, Bool.false_eq_true] <;> omega))) | (apply EvW.convW; exact rfl; exact UndC.eq; exact UndC.eq; exact of_decide_eq_true rfl) | (apply EvW.conv; exact rfl; exact UndC.eq; exact UndC.eq) | (apply EvW.pickT; exact rfl; exact rfl) | (apply EvW.pickF; exact rfl; exact rfl) | (apply EvW.shr; exact rfl; exact rfl; omega) | (apply EvW.lenRow; exact rfl; exact UndC.eq; assumption) | (apply EvW.lenOwn; exact rfl; exact UndC.eq; (focus ((repeat constructor); done))) | (apply EvW.idxRow; exact rfl; exact rfl; exact UndC.eq; exact SzC.eq; assumption; omega; omega) | (apply EvW.idxOwn; exact rfl; exact rfl; exact UndC.eq; exact SzC.eq; (focus ((repeat constructor); done)); omega; omega) | (apply EvW.ldInt; exact rfl; exact ScalC.eq; assumption; omega) | (apply EvW.ldIntOwn; exact rfl; exact ScalC.eq; (focus ((repeat constructor); done)); omega) | (apply EvW.fldRow; exact rfl; exact FldC.eq; assumption; omega) | (apply EvW.fldOwn; exact rfl; exact FldC.eq; (focus ((repeat constructor); done)); omega)))
          | refine WC.seq ?_ | refine WC.region ?_ | refine WL.nil ?_ | refine WE.next ?_ | refine WC.block ?_ | refine WC.skip ?_ | refine WC.exit ?_ | refine WE.pass ?_ | refine WE.hit ?_ | refine WE.miss rfl ?_ | refine WE.out ?_ | refine WC.condT rfl ?_ | refine WC.condF rfl ?_ | refine WC.ret ?_ | refine WE.passRet ?_ | refine WE.outRet ?_ | refine WL.wanted rfl rfl rfl ?_ | refine WL.unwanted rfl rfl rfl rfl ?_ | refine WL.unwantedU rfl rfl rfl rfl ?_ | refine WL.unwanted0 rfl rfl rfl ?_
        try refine WL.wanted rfl rfl rfl ?_
        (apply WL.buildSlice; exact rfl; exact UndC.eq; exact SzC.eq; exact ZvC.eq; exact rfl; exact rfl; exact rfl; ((focus ((repeat (first | exact Flat.nil | (apply Flat.one; (first | exact rfl | assumption)) | (apply Flat.cons; exact rfl; exact rfl))); done))); exact rfl; exact rfl; intro c)
        try refine WL.wanted rfl rfl rfl ?_
        (apply WL.append; exact rfl; exact rfl; exact rfl; exact UndC.eq; exact SzC.eq; exact ByC.eq; exact ZvC.eq; exact rfl; (first | exact notInt_sl UndC.eq | exact notInt_st UndC.eq); exact rfl; (focus ((repeat constructor); done)))
        · exact adds_blk .head rfl rfl
        · (simp; omega)
        intro v9
        refine WL.ownEq (cs' := ((be kk X).take (j + 1)).map byt) (len' := j + 1) .head rfl ?_ ?_
        · rw [be_take (by omega), List.map_append, List.map_singleton, byt_of, show min sh.toNat IntKind.i64.bits = 8 * (kk - 1 - j) by simp only [IntKind.bits]; omega]
        repeat first
          | (apply WL.q; exact rfl; exact rfl; exact rfl; (first | (apply EvW.move; exact rfl) | (apply EvW.assign; exact rfl) | (apply EvW.nilPtr; exact rfl) | (apply EvW.fieldAddr0; exact rfl; exact FldC.eq) | (apply EvW.fieldAddr; exact rfl; exact FldC.eq) | (apply EvW.load; exact rfl; exact ScalC.eq; (focus ((repeat constructor); done)); exact rfl) | (apply EvW.lenL; exact rfl; exact UndC.eq) | (apply EvW.cmpT; exact rfl; exact rfl; exact rfl; omega) | (apply EvW.cmpF; exact rfl; exact rfl; exact rfl; omega) | (apply EvW.cmp; exact rfl; exact rfl; exact rfl) | (apply EvW.arN; exact rfl; exact rfl; exact rfl; (first | (refine i64_in ?_ ?_ <;> omega) | (constructor <;> simp only [IntKind.min, IntKind.max, IntKind.signed, IntKind.bits, ↓reduceIte, Bool.false_eq_true] <;> omega))) | (apply EvW.ar; exact rfl; exact rfl; exact rfl) | (apply EvW.convN; exact rfl; exact UndC.eq; exact UndC.eq; (first | (refine i64_in ?_ ?_ <;> omega) | (constructor <;> simp only [IntKind.min, IntKind.max, IntKind.signed, IntKind.bits, ↓reduceIte, Bool.false_eq_true] <;> omega))) | (apply EvW.convW; exact rfl; exact UndC.eq; exact UndC.eq; exact of_decide_eq_true rfl) | (apply EvW.conv; exact rfl; exact UndC.eq; exact UndC.eq) | (apply EvW.pickT; exact rfl; exact rfl) | (apply EvW.pickF; exact rfl; exact rfl) | (apply EvW.shr; exact rfl; exact rfl; omega) | (apply EvW.lenRow; exact rfl; exact UndC.eq; assumption) | (apply EvW.lenOwn; exact rfl; exact UndC.eq; (focus ((repeat constructor); done))) | (apply EvW.idxRow; exact rfl; exact rfl; exact UndC.eq; exact SzC.eq; assumption; omega; omega) | (apply EvW.idxOwn; exact rfl; exact rfl; exact UndC.eq; exact SzC.eq; (focus ((repeat constructor); done)); omega; omega) | (apply EvW.ldInt; exact rfl; exact ScalC.eq; assumption; omega) | (apply EvW.ldIntOwn; exact rfl; exact ScalC.eq; (focus ((repeat constructor); done)); omega) | (apply EvW.fldRow; exact rfl; exact FldC.eq; assumption; omega) | (apply EvW.fldOwn; exact rfl; exact FldC.eq; (focus ((repeat constructor); done)); omega)))
          | refine WC.seq ?_ | refine WC.region ?_ | refine WL.nil ?_ | refine WE.next ?_ | refine WC.block ?_ | refine WC.skip ?_ | refine WC.exit ?_ | refine WE.pass ?_ | refine WE.hit ?_ | refine WE.miss rfl ?_ | refine WE.out ?_ | refine WC.condT rfl ?_ | refine WC.condF rfl ?_ | refine WC.ret ?_ | refine WE.passRet ?_ | refine WE.outRet ?_ | refine WL.wanted rfl rfl rfl ?_ | refine WL.unwanted rfl rfl rfl rfl ?_ | refine WL.unwantedU rfl rfl rfl rfl ?_ | refine WL.unwanted0 rfl rfl rfl ?_
        exact WE.again (s := (j, sh, v8)) (j + 1, sh - 8, v9) ⟨by simp only []; omega, by simp only []; omega⟩ ⟨rfl, rfl, rfl, rfl, rfl, rfl, rfl, rfl, trivial⟩ (fun _ h => h.keep (by repeat constructor)) (by simp only []; omega)
      · obtain rfl : j = kk := by omega
        repeat first
          | (apply WL.q; exact rfl; exact rfl; exact rfl; (first | (apply EvW.move; exact rfl) | (apply EvW.assign; exact rfl) | (apply EvW.nilPtr; exact rfl) | (apply EvW.fieldAddr0; exact rfl; exact FldC.eq) | (apply EvW.fieldAddr; exact rfl; exact FldC.eq) | (apply EvW.load; exact rfl; exact ScalC.eq; (focus ((repeat constructor); done)); exact rfl) | (apply EvW.lenL; exact rfl; exact UndC.eq) | (apply EvW.cmpT; exact rfl; exact rfl; exact rfl; omega) | (apply EvW.cmpF; exact rfl; exact rfl; exact rfl; omega) | (apply EvW.cmp; exact rfl; exact rfl; exact rfl) | (apply EvW.arN; exact rfl; exact rfl; exact rfl; (first | (refine i64_in ?_ ?_ <;> omega) | (constructor <;> simp only [IntKind.min, IntKind.max, IntKind.signed, IntKind.bits, ↓reduceIte, Bool.false_eq_true] <;> omega))) | (apply EvW.ar; exact rfl; exact rfl; exact rfl) | (apply EvW.convN; exact rfl; exact UndC.eq; exact UndC.eq; (first | (refine i64_in ?_ ?_ <;> omega) | (constructor <;> simp only [IntKind.min, IntKind.max, IntKind.signed, IntKind.bits, ↓reduceIte, Bool.false_eq_true] <;> omega))) | (apply EvW.convW; exact rfl; exact UndC.eq; exact UndC.eq; exact of_decide_eq_true rfl) | (apply EvW.conv; exact rfl; exact UndC.eq; exact UndC.eq) | (apply EvW.pickT; exact rfl; exact rfl) | (apply EvW.pickF; exact rfl; exact rfl) | (apply EvW.shr; exact rfl; exact rfl; omega) | (apply EvW.lenRow; exact rfl; exact UndC.eq; assumption) | (apply EvW.lenOwn; exact rfl; exact UndC.eq; (focus ((repeat constructor); done))) | (apply EvW.idxRow; exact rfl; exact rfl; exact UndC.eq; exact SzC.eq; assumption; omega; omega) | (apply EvW.idxOwn; exact rfl; exact rfl; exact UndC.eq; exact SzC.eq; (focus ((repeat constructor); done)); omega; omega) | (apply EvW.ldInt; exact rfl; exact ScalC.eq; assumption; omega) | (apply EvW.ldIntOwn; exact rfl; exact ScalC.eq; (focus ((repeat constructor); done)); omega) | (apply EvW.fldRow; exact rfl; exact FldC.eq; assumption; omega) | (apply EvW.fldOwn; exact rfl; exact FldC.eq; (focus ((repeat constructor); done)); omega)))
          | refine WC.seq ?_ | refine WC.region ?_ | refine WL.nil ?_ | refine WE.next ?_ | refine WC.block ?_ | refine WC.skip ?_ | refine WC.exit ?_ | refine WE.pass ?_ | refine WE.hit ?_ | refine WE.miss rfl ?_ | refine WE.out ?_ | refine WC.condT rfl ?_ | refine WC.condF rfl ?_ | refine WC.ret ?_ | refine WE.passRet ?_ | refine WE.outRet ?_ | refine WL.wanted rfl rfl rfl ?_ | refine WL.unwanted rfl rfl rfl rfl ?_ | refine WL.unwantedU rfl rfl rfl rfl ?_ | refine WL.unwanted0 rfl rfl rfl ?_
        refine WL.ownEq (cs' := (be j X).map byt) (len' := (be j X).length) .head (be_length j X).symm (by rw [List.take_of_length_le (by rw [be_length]; exact Nat.le_refl _)]) ?_
        try refine WL.wanted rfl rfl rfl ?_
        apply WL.callA ([.own 5 1 v1 M1.out.length (M1.out.map byt), .blk b #[i64 M1.e, v1, i64 M1.lim] 130])
        · exact rfl
        · exact rfl
        · exact fun w => Try.call81 _ w
        · (focus ((repeat constructor); done))
        · exact fun w1 S1 hS1 hs1 ho1 => put_spec b v1 v8 M1 (be j X) w1 S1 hS1 ((ho1 _ _ .head).own) (by rw [be_length, ← hM1]; split <;> exact hfit.le (by omega))
        rintro _ _ ⟨rfl, v2, rfl⟩
        first | refine WL.app4 ?_ | refine WL.app3 ?_ | refine WL.app2 ?_ | refine WL.app1 ?_ | refine WL.app0 ?_ | skip
        repeat first
          | (apply WL.q; exact rfl; exact rfl; exact rfl; (first | (apply EvW.move; exact rfl) | (apply EvW.assign; exact rfl) | (apply EvW.nilPtr; exact rfl) | (apply EvW.fieldAddr0; exact rfl; exact FldC.eq) | (apply EvW.fieldAddr; exact rfl; exact FldC.eq) | (apply EvW.load; exact rfl; exact ScalC.eq; (focus ((repeat constructor); done)); exact rfl) | (apply EvW.lenL; exact rfl; exact UndC.eq) | (apply EvW.cmpT; exact rfl; exact rfl; exact rfl; omega) | (apply EvW.cmpF; exact rfl; exact rfl; exact rfl; omega) | (apply EvW.cmp; exact rfl; exact rfl; exact rfl) | (apply EvW.arN; exact rfl; exact rfl; exact rfl; (first | (refine i64_in ?_ ?_ <;> omega) | (constructor <;> simp only [IntKind.min, IntKind.max, IntKind.signed, IntKind.bits, ↓reduceIte, Bool.false_eq_true] <;> omega))) | (apply EvW.ar; exact rfl; exact rfl; exact rfl) | (apply EvW.convN; exact rfl; exact UndC.eq; exact UndC.eq; (first | (refine i64_in ?_ ?_ <;> omega) | (constructor <;> simp only [IntKind.min, IntKind.max, IntKind.signed, IntKind.bits, ↓reduceIte, Bool.false_eq_true] <;> omega))) | (apply EvW.convW; exact rfl; exact UndC.eq; exact UndC.eq; exact of_decide_eq_true rfl) | (apply EvW.conv; exact rfl; exact UndC.eq; exact UndC.eq) | (apply EvW.pickT; exact rfl; exact rfl) | (apply EvW.pickF; exact rfl; exact rfl) | (apply EvW.shr; exact rfl; exact rfl; omega) | (apply EvW.lenRow; exact rfl; exact UndC.eq; assumption) | (apply EvW.lenOwn; exact rfl; exact UndC.eq; (focus ((repeat constructor); done))) | (apply EvW.idxRow; exact rfl; exact rfl; exact UndC.eq; exact SzC.eq; assumption; omega; omega) | (apply EvW.idxOwn; exact rfl; exact rfl; exact UndC.eq; exact SzC.eq; (focus ((repeat constructor); done)); omega; omega) | (apply EvW.ldInt; exact rfl; exact ScalC.eq; assumption; omega) | (apply EvW.ldIntOwn; exact rfl; exact ScalC.eq; (focus ((repeat constructor); done)); omega) | (apply EvW.fldRow; exact rfl; exact FldC.eq; assumption; omega) | (apply EvW.fldOwn; exact rfl; exact FldC.eq; (focus ((repeat constructor); done)); omega)))
          | refine WC.seq ?_ | refine WC.region ?_ | refine WL.nil ?_ | refine WE.next ?_ | refine WC.block ?_ | refine WC.skip ?_ | refine WC.exit ?_ | refine WE.pass ?_ | refine WE.hit ?_ | refine WE.miss rfl ?_ | refine WE.out ?_ | refine WC.condT rfl ?_ | refine WC.condF rfl ?_ | refine WC.ret ?_ | refine WE.passRet ?_ | refine WE.outRet ?_ | refine WL.wanted rfl rfl rfl ?_ | refine WL.unwanted rfl rfl rfl rfl ?_ | refine WL.unwantedU rfl rfl rfl rfl ?_ | refine WL.unwanted0 rfl rfl rfl ?_
        refine WE.again (s := (i, v1)) (i + 1, v2) (by simp only []; omega) ⟨rfl, rfl, rfl, rfl, rfl, trivial⟩ (fun _ h => ?_) (by simp only []; omega)
        rw [hfold, hnum]
        exact h.keep (by repeat constructor)
  · obtain rfl : i = xs.length := by omega
    repeat first
      | (apply WL.q; exact rfl; exact rfl; exact rfl; (first | (apply EvW.move; exact rfl) | (apply EvW.assign; exact rfl) | (apply EvW.nilPtr; exact rfl) | (apply EvW.fieldAddr0; exact rfl; exact FldC.eq) | (apply EvW.fieldAddr; exact rfl; exact FldC.eq) | (apply EvW.load; exact rfl; exact ScalC.eq; (focus ((repeat constructor); done)); exact rfl) | (apply EvW.lenL; exact rfl; exact UndC.eq) | (apply EvW.cmpT; exact rfl; exact rfl; exact rfl; omega) | (apply EvW.cmpF; exact rfl; exact rfl; exact rfl; omega) | (apply EvW.cmp; exact rfl; exact rfl; exact rfl) | (apply EvW.arN; exact rfl; exact rfl; exact rfl; (first | (refine i64_in ?_ ?_ <;> omega) | (constructor <;> simp only [IntKind.min, IntKind.max, IntKind.signed, IntKind.bits, ↓reduceIte, Bool.false_eq_true] <;> omega))) | (apply EvW.ar; exact rfl; exact rfl; exact rfl) | (apply EvW.convN; exact rfl; exact UndC.eq; exact UndC.eq; (first | (refine i64_in ?_ ?_ <;> omega) | (constructor <;> simp only [IntKind.min, IntKind.max, IntKind.signed, IntKind.bits, ↓reduceIte, Bool.false_eq_true] <;> omega))) | (apply EvW.convW; exact rfl; exact UndC.eq; exact UndC.eq; exact of_decide_eq_true rfl) | (apply EvW.conv; exact rfl; exact UndC.eq; exact UndC.eq) | (apply EvW.pickT; exact rfl; exact rfl) | (apply EvW.pickF; exact rfl; exact rfl) | (apply EvW.shr; exact rfl; exact rfl; omega) | (apply EvW.lenRow; exact rfl; exact UndC.eq; assumption) | (apply EvW.lenOwn; exact rfl; exact UndC.eq; (focus ((repeat constructor); done))) | (apply EvW.idxRow; exact rfl; exact rfl; exact UndC.eq; exact SzC.eq; assumption; omega; omega) | (apply EvW.idxOwn; exact rfl; exact rfl; exact UndC.eq; exact SzC.eq; (focus ((repeat constructor); done)); omega; omega) | (apply EvW.ldInt; exact rfl; exact ScalC.eq; assumption; omega) | (apply EvW.ldIntOwn; exact rfl; exact ScalC.eq; (focus ((repeat constructor); done)); omega) | (apply EvW.fldRow; exact rfl; exact FldC.eq; assumption; omega) | (apply EvW.fldOwn; exact rfl; exact FldC.eq; (focus ((repeat constructor); done)); omega)))
      | refine WC.seq ?_ | refine WC.region ?_ | refine WL.nil ?_ | refine WE.next ?_ | refine WC.block ?_ | refine WC.skip ?_ | refine WC.exit ?_ | refine WE.pass ?_ | refine WE.hit ?_ | refine WE.miss rfl ?_ | refine WE.out ?_ | refine WC.condT rfl ?_ | refine WC.condF rfl ?_ | refine WC.ret ?_ | refine WE.passRet ?_ | refine WE.outRet ?_ | refine WL.wanted rfl rfl rfl ?_ | refine WL.unwanted rfl rfl rfl rfl ?_ | refine WL.unwantedU rfl rfl rfl rfl ?_ | refine WL.unwanted0 rfl rfl rfl ?_
    rw [List.take_length]
    refine WE.keep (xs := [.own 5 1 v1 (xs.foldl (PW.num kk) m).out.length ((xs.foldl (PW.num kk) m).out.map byt), .blk b #[i64 (xs.foldl (PW.num kk) m).e, v1, i64 (xs.foldl (PW.num kk) m).lim] 130]) (by repeat constructor) ?_
    first | refine WE.end0 rfl ?_ | refine WE.ret0 rfl ?_
    exact ⟨rfl, v1, rfl⟩
theorem byte_spec (b : Nat) (v lv : Value) (m : PW) (xs : List Int) (w : World) (S : BSet) (hS : (sepL [.own 5 1 v m.out.length (m.out.map byt), .blk b #[i64 m.e, v, i64 m.lim] 130]).sat S w)
    (hx : Sees w S (.row 1 lv xs.length (xs.map i64))) (hr : m.fits (xs.map fun _ => 1).sum) (hxb : xs.length ≤ 1152921504606846976) :
    Tri Try.prog 43 #[ptr b 0, lv] w S fun u A => u = .tuple #[] ∧ ∃ v', A = [.own 5 1 v' (xs.foldl (PW.num 1) m).out.length ((xs.foldl (PW.num 1) m).out.map byt), .blk b #[i64 (xs.foldl (PW.num 1) m).e, v', i64 (xs.foldl (PW.num 1) m).lim] 130] := by
  refine Tri.enter (l := [ptr b 0, lv]) Try.func43 rfl Try.ntmps43 rfl [(0, ptr b 0), (1, lv)] (subA rfl) hS ?_
  repeat first
    | (apply WL.q; exact rfl; exact rfl; exact rfl; (first | (apply EvW.move; exact rfl)))
    | refine WC.seq ?_ | refine WC.region ?_ | refine WL.nil ?_ | refine WE.next ?_ | refine WC.skip ?_ | refine WC.exit ?_ | refine WE.pass ?_ | refine WE.hit ?_ | refine WE.miss rfl ?_ | refine WE.out ?_ | refine WC.ret ?_ | refine WE.passRet ?_ | refine WE.outRet ?_ | refine WL.wanted rfl rfl rfl ?_
  try refine WL.wanted rfl rfl rfl ?_
  apply WL.callT
  · exact rfl
  · exact rfl
  · exact fun w1 S1 hS1 hs1 ho1 => fixed_spec 1 b (by decide) (by decide) v lv m xs w1 S1 hS1 (hs1 _ hx) hr hxb
  · exact fun w => Try.call63 _ w
  · (focus ((repeat constructor); done))
  rintro _ _ ⟨rfl, v', rfl⟩
  first | refine WL.app4 ?_ | refine WL.app3 ?_ | refine WL.app2 ?_ | refine WL.app1 ?_ | refine WL.app0 ?_ | skip
  repeat first
    | (apply WL.q; exact rfl; exact rfl; exact rfl; (first | (apply EvW.move; exact rfl)))
    | refine WC.seq ?_ | refine WC.region ?_ | refine WL.nil ?_ | refine WE.next ?_ | refine WC.skip ?_ | refine WC.exit ?_ | refine WE.pass ?_ | refine WE.hit ?_ | refine WE.miss rfl ?_ | refine WE.out ?_ | refine WC.ret ?_ | refine WE.passRet ?_ | refine WE.outRet ?_ | refine WL.wanted rfl rfl rfl ?_
  exact WE.end0 rfl ⟨rfl, v', rfl⟩
theorem word_spec (b : Nat) (v lv : Value) (m : PW) (xs : List Int) (w : World) (S : BSet) (hS : (sepL [.own 5 1 v m.out.length (m.out.map byt), .blk b #[i64 m.e, v, i64 m.lim] 130]).sat S w)
    (hx : Sees w S (.row 1 lv xs.length (xs.map i64))) (hr : m.fits (xs.map fun _ => 2).sum) (hxb : xs.length ≤ 1152921504606846976) :
    Tri Try.prog 82 #[ptr b 0, lv] w S fun u A => u = .tuple #[] ∧ ∃ v', A = [.own 5 1 v' (xs.foldl (PW.num 2) m).out.length ((xs.foldl (PW.num 2) m).out.map byt), .blk b #[i64 (xs.foldl (PW.num 2) m).e, v', i64 (xs.foldl (PW.num 2) m).lim] 130] := by
  refine Tri.enter (l := [ptr b 0, lv]) Try.func82 rfl Try.ntmps82 rfl [(0, ptr b 0), (1, lv)] (subA rfl) hS ?_
  repeat first
    | (apply WL.q; exact rfl; exact rfl; exact rfl; (first | (apply EvW.move; exact rfl)))
    | refine WC.seq ?_ | refine WC.region ?_ | refine WL.nil ?_ | refine WE.next ?_ | refine WC.skip ?_ | refine WC.exit ?_ | refine WE.pass ?_ | refine WE.hit ?_ | refine WE.miss rfl ?_ | refine WE.out ?_ | refine WC.ret ?_ | refine WE.passRet ?_ | refine WE.outRet ?_ | refine WL.wanted rfl rfl rfl ?_
  try refine WL.wanted rfl rfl rfl ?_
  apply WL.callT
  · exact rfl
  · exact rfl
  · exact fun w1 S1 hS1 hs1 ho1 => fixed_spec 2 b (by decide) (by decide) v lv m xs w1 S1 hS1 (hs1 _ hx) hr hxb
  · exact fun w => Try.call63 _ w
  · (focus ((repeat constructor); done))
  rintro _ _ ⟨rfl, v', rfl⟩
  first | refine WL.app4 ?_ | refine WL.app3 ?_ | refine WL.app2 ?_ | refine WL.app1 ?_ | refine WL.app0 ?_ | skip
  repeat first
    | (apply WL.q; exact rfl; exact rfl; exact rfl; (first | (apply EvW.move; exact rfl)))
    | refine WC.seq ?_ | refine WC.region ?_ | refine WL.nil ?_ | refine WE.next ?_ | refine WC.skip ?_ | refine WC.exit ?_ | refine WE.pass ?_ | refine WE.hit ?_ | refine WE.miss rfl ?_ | refine WE.out ?_ | refine WC.ret ?_ | refine WE.passRet ?_ | refine WE.outRet ?_ | refine WL.wanted rfl rfl rfl ?_
  exact WE.end0 rfl ⟨rfl, v', rfl⟩
theorem long_spec (b : Nat) (v lv : Value) (m : PW) (xs : List Int) (w : World) (S : BSet) (hS : (sepL [.own 5 1 v m.out.length (m.out.map byt), .blk b #[i64 m.e, v, i64 m.lim] 130]).sat S w)
    (hx : Sees w S (.row 1 lv xs.length (xs.map i64))) (hr : m.fits (xs.map fun _ => 4).sum) (hxb : xs.length ≤ 1152921504606846976) :
    Tri Try.prog 44 #[ptr b 0, lv] w S fun u A => u = .tuple #[] ∧ ∃ v', A = [.own 5 1 v' (xs.foldl (PW.num 4) m).out.length ((xs.foldl (PW.num 4) m).out.map byt), .blk b #[i64 (xs.foldl (PW.num 4) m).e, v', i64 (xs.foldl (PW.num 4) m).lim] 130] := by
  refine Tri.enter (l := [ptr b 0, lv]) Try.func44 rfl Try.ntmps44 rfl [(0, ptr b 0), (1, lv)] (subA rfl) hS ?_
  repeat first
    | (apply WL.q; exact rfl; exact rfl; exact rfl; (first | (apply EvW.move; exact rfl)))
    | refine WC.seq ?_ | refine WC.region ?_ | refine WL.nil ?_ | refine WE.next ?_ | refine WC.skip ?_ | refine WC.exit ?_ | refine WE.pass ?_ | refine WE.hit ?_ | refine WE.miss rfl ?_ | refine WE.out ?_ | refine WC.ret ?_ | refine WE.passRet ?_ | refine WE.outRet ?_ | refine WL.wanted rfl rfl rfl ?_
  try refine WL.wanted rfl rfl rfl ?_
  apply WL.callT
  · exact rfl
  · exact rfl
  · exact fun w1 S1 hS1 hs1 ho1 => fixed_spec 4 b (by decide) (by decide) v lv m xs w1 S1 hS1 (hs1 _ hx) hr hxb
  · exact fun w => Try.call63 _ w
  · (focus ((repeat constructor); done))
  rintro _ _ ⟨rfl, v', rfl⟩
  first | refine WL.app4 ?_ | refine WL.app3 ?_ | refine WL.app2 ?_ | refine WL.app1 ?_ | refine WL.app0 ?_ | skip
  repeat first
    | (apply WL.q; exact rfl; exact rfl; exact rfl; (first | (apply EvW.move; exact rfl)))
    | refine WC.seq ?_ | refine WC.region ?_ | refine WL.nil ?_ | refine WE.next ?_ | refine WC.skip ?_ | refine WC.exit ?_ | refine WE.pass ?_ | refine WE.hit ?_ | refine WE.miss rfl ?_ | refine WE.out ?_ | refine WC.ret ?_ | refine WE.passRet ?_ | refine WE.outRet ?_ | refine WL.wanted rfl rfl rfl ?_
  exact WE.end0 rfl ⟨rfl, v', rfl⟩
end Go.Proofs.Ytknclcjmfgdphaa
namespace Go.Proofs.Ytknclcjmfgdphaa
open Go.RowKit Go.BK
def PW.init (n : Int) : PW := ⟨0, [], max n 0⟩
def PW.said (m : PW) : List UInt8 := if m.e = 0 then m.out else []
theorem done_spec (b : Nat) (v : Value) (m : PW) (w : World) (S : BSet) (hS : (sepL [.own 5 1 v m.out.length (m.out.map byt), .blk b #[i64 m.e, v, i64 m.lim] 130]).sat S w) :
    Tri Try.prog 45 #[ptr b 0] w S fun u A => u = .tuple #[str m.said, i64 m.e] ∧ A = [.own 5 1 v m.out.length (m.out.map byt), .blk b #[i64 m.e, v, i64 m.lim] 130] := by
  refine Tri.enter (l := [ptr b 0]) Try.func45 rfl Try.ntmps45 rfl [(0, ptr b 0)] (subA rfl) hS ?_
  repeat first
    | (apply WL.q; exact rfl; exact rfl; exact rfl; (first | (apply EvW.move; exact rfl) | (apply EvW.assign; exact rfl) | (apply EvW.nilPtr; exact rfl) | (apply EvW.fieldAddr0; exact rfl; exact FldC.eq) | (apply EvW.fieldAddr; exact rfl; exact FldC.eq) | (apply EvW.load; exact rfl; exact ScalC.eq; (focus ((repeat constructor); done)); exact rfl) | (apply EvW.notT; exact rfl) | (apply EvW.notF; exact rfl) | (apply EvW.notP; exact rfl) | (apply EvW.strRow; exact rfl; exact UndC.eq; exact UndC.eq; exact UndC.eq; assumption) | (apply EvW.strOwn; exact rfl; exact UndC.eq; exact UndC.eq; exact UndC.eq; (focus ((repeat constructor); done))) | (apply EvW.ldInt; exact rfl; exact ScalC.eq; assumption; omega) | (apply EvW.ldIntOwn; exact rfl; exact ScalC.eq; (focus ((repeat constructor); done)); omega) | (apply EvW.fldRow; exact rfl; exact FldC.eq; assumption; omega) | (apply EvW.fldOwn; exact rfl; exact FldC.eq; (focus ((repeat constructor); done)); omega)))
    | refine WC.seq ?_ | refine WC.region ?_ | refine WL.nil ?_ | refine WE.next ?_ | refine WC.skip ?_ | refine WC.exit ?_ | refine WE.pass ?_ | refine WE.hit ?_ | refine WE.miss rfl ?_ | refine WE.out ?_ | refine WC.condT rfl ?_ | refine WC.condF rfl ?_ | refine WC.ret ?_ | refine WE.passRet ?_ | refine WE.outRet ?_ | refine WL.wanted rfl rfl rfl ?_
  try refine WL.wanted rfl rfl rfl ?_
  apply WL.callT
  · exact rfl
  · exact rfl
  · exact fun w1 S1 hS1 hs1 ho1 => well_spec b 130 m.e [v, i64 m.lim] w1 S1 hS1
  · exact fun w => Try.call64 _ w
  · (focus ((repeat constructor); done))
  rintro _ _ ⟨rfl, rfl⟩
  first | refine WL.app4 ?_ | refine WL.app3 ?_ | refine WL.app2 ?_ | refine WL.app1 ?_ | refine WL.app0 ?_ | skip
  by_cases he : m.e = 0
  · simp only [decide_eq_true he]
    repeat first
      | (apply WL.q; exact rfl; exact rfl; exact rfl; (first | (apply EvW.move; exact rfl) | (apply EvW.assign; exact rfl) | (apply EvW.nilPtr; exact rfl) | (apply EvW.fieldAddr0; exact rfl; exact FldC.eq) | (apply EvW.fieldAddr; exact rfl; exact FldC.eq) | (apply EvW.load; exact rfl; exact ScalC.eq; (focus ((repeat constructor); done)); exact rfl) | (apply EvW.notT; exact rfl) | (apply EvW.notF; exact rfl) | (apply EvW.notP; exact rfl) | (apply EvW.strRow; exact rfl; exact UndC.eq; exact UndC.eq; exact UndC.eq; assumption) | (apply EvW.strOwn; exact rfl; exact UndC.eq; exact UndC.eq; exact UndC.eq; (focus ((repeat constructor); done))) | (apply EvW.ldInt; exact rfl; exact ScalC.eq; assumption; omega) | (apply EvW.ldIntOwn; exact rfl; exact ScalC.eq; (focus ((repeat constructor); done)); omega) | (apply EvW.fldRow; exact rfl; exact FldC.eq; assumption; omega) | (apply EvW.fldOwn; exact rfl; exact FldC.eq; (focus ((repeat constructor); done)); omega)))
      | refine WC.seq ?_ | refine WC.region ?_ | refine WL.nil ?_ | refine WE.next ?_ | refine WC.skip ?_ | refine WC.exit ?_ | refine WE.pass ?_ | refine WE.hit ?_ | refine WE.miss rfl ?_ | refine WE.out ?_ | refine WC.condT rfl ?_ | refine WC.condF rfl ?_ | refine WC.ret ?_ | refine WE.passRet ?_ | refine WE.outRet ?_ | refine WL.wanted rfl rfl rfl ?_
    refine WE.keep (xs := [.own 5 1 v m.out.length (m.out.map byt), .blk b #[i64 m.e, v, i64 m.lim] 130]) (by repeat constructor) ?_
    refine WE.ret2 rfl rfl rfl ?_
    exact ⟨by simp [PW.said, he], rfl⟩
  · simp only [decide_eq_false he]
    repeat first
      | (apply WL.q; exact rfl; exact rfl; exact rfl; (first | (apply EvW.move; exact rfl) | (apply EvW.assign; exact rfl) | (apply EvW.nilPtr; exact rfl) | (apply EvW.fieldAddr0; exact rfl; exact FldC.eq) | (apply EvW.fieldAddr; exact rfl; exact FldC.eq) | (apply EvW.load; exact rfl; exact ScalC.eq; (focus ((repeat constructor); done)); exact rfl) | (apply EvW.notT; exact rfl) | (apply EvW.notF; exact rfl) | (apply EvW.notP; exact rfl) | (apply EvW.strRow; exact rfl; exact UndC.eq; exact UndC.eq; exact UndC.eq; assumption) | (apply EvW.strOwn; exact rfl; exact UndC.eq; exact UndC.eq; exact UndC.eq; (focus ((repeat constructor); done))) | (apply EvW.ldInt; exact rfl; exact ScalC.eq; assumption; omega) | (apply EvW.ldIntOwn; exact rfl; exact ScalC.eq; (focus ((repeat constructor); done)); omega) | (apply EvW.fldRow; exact rfl; exact FldC.eq; assumption; omega) | (apply EvW.fldOwn; exact rfl; exact FldC.eq; (focus ((repeat constructor); done)); omega)))
      | refine WC.seq ?_ | refine WC.region ?_ | refine WL.nil ?_ | refine WE.next ?_ | refine WC.skip ?_ | refine WC.exit ?_ | refine WE.pass ?_ | refine WE.hit ?_ | refine WE.miss rfl ?_ | refine WE.out ?_ | refine WC.condT rfl ?_ | refine WC.condF rfl ?_ | refine WC.ret ?_ | refine WE.passRet ?_ | refine WE.outRet ?_ | refine WL.wanted rfl rfl rfl ?_
    repeat refine WC.seq ?_
    apply WC.drawQ Try.mixed
    · (focus ((repeat (first | exact Restr.nil | (apply Restr.keep; exact rfl; exact rfl) | (apply Restr.drop; exact rfl))); done))
    · exact rfl
    · decide +kernel
    · decide +kernel
    · repeat first
        | exact Draws.nil
        | (apply Draws.skip; exact rfl; exact rfl)
        | (apply Draws.q0; exact rfl
           (first | (apply EvW.move; exact rfl) | (apply EvW.assign; exact rfl) | (apply EvW.nilPtr; exact rfl) | (apply EvW.fieldAddr0; exact rfl; exact FldC.eq) | (apply EvW.fieldAddr; exact rfl; exact FldC.eq) | (apply EvW.load; exact rfl; exact ScalC.eq; (focus ((repeat constructor); done)); exact rfl) | (apply EvW.notT; exact rfl) | (apply EvW.notF; exact rfl) | (apply EvW.notP; exact rfl) | (apply EvW.strRow; exact rfl; exact UndC.eq; exact UndC.eq; exact UndC.eq; assumption) | (apply EvW.strOwn; exact rfl; exact UndC.eq; exact UndC.eq; exact UndC.eq; (focus ((repeat constructor); done))) | (apply EvW.ldInt; exact rfl; exact ScalC.eq; assumption; omega) | (apply EvW.ldIntOwn; exact rfl; exact ScalC.eq; (focus ((repeat constructor); done)); omega) | (apply EvW.fldRow; exact rfl; exact FldC.eq; assumption; omega) | (apply EvW.fldOwn; exact rfl; exact FldC.eq; (focus ((repeat constructor); done)); omega)))
    apply WE.writ
    · (focus ((repeat (first | exact Writ.nil | apply Writ.some | apply Writ.none)); done))
    repeat first
      | (apply WL.q; exact rfl; exact rfl; exact rfl; (first | (apply EvW.move; exact rfl) | (apply EvW.assign; exact rfl) | (apply EvW.nilPtr; exact rfl) | (apply EvW.fieldAddr0; exact rfl; exact FldC.eq) | (apply EvW.fieldAddr; exact rfl; exact FldC.eq) | (apply EvW.load; exact rfl; exact ScalC.eq; (focus ((repeat constructor); done)); exact rfl) | (apply EvW.notT; exact rfl) | (apply EvW.notF; exact rfl) | (apply EvW.notP; exact rfl) | (apply EvW.strRow; exact rfl; exact UndC.eq; exact UndC.eq; exact UndC.eq; assumption) | (apply EvW.strOwn; exact rfl; exact UndC.eq; exact UndC.eq; exact UndC.eq; (focus ((repeat constructor); done))) | (apply EvW.ldInt; exact rfl; exact ScalC.eq; assumption; omega) | (apply EvW.ldIntOwn; exact rfl; exact ScalC.eq; (focus ((repeat constructor); done)); omega) | (apply EvW.fldRow; exact rfl; exact FldC.eq; assumption; omega) | (apply EvW.fldOwn; exact rfl; exact FldC.eq; (focus ((repeat constructor); done)); omega)))
      | refine WC.seq ?_ | refine WC.region ?_ | refine WL.nil ?_ | refine WE.next ?_ | refine WC.skip ?_ | refine WC.exit ?_ | refine WE.pass ?_ | refine WE.hit ?_ | refine WE.miss rfl ?_ | refine WE.out ?_ | refine WC.condT rfl ?_ | refine WC.condF rfl ?_ | refine WC.ret ?_ | refine WE.passRet ?_ | refine WE.outRet ?_ | refine WL.wanted rfl rfl rfl ?_
    refine WE.keep (xs := [.own 5 1 v m.out.length (m.out.map byt), .blk b #[i64 m.e, v, i64 m.lim] 130]) (by repeat constructor) ?_
    refine WE.ret2 rfl rfl rfl ?_
    exact ⟨by simp [PW.said, he], rfl⟩
theorem new_spec (n : Int) (w : World) (S : BSet) (hS : (sepL []).sat S w) :
    Tri Try.prog 42 #[i64 n] w S fun u A => ∃ b, u = ptr b 0 ∧ A = [.own 5 1 (.slice none 0 0) (PW.init n).out.length ((PW.init n).out.map byt), .blk b #[i64 (PW.init n).e, .slice none 0 0, i64 (PW.init n).lim] 130] := by
  refine Tri.enter (l := [i64 n]) Try.func42 rfl Try.ntmps42 rfl [(0, i64 n)] (subA rfl) hS ?_
  repeat first
    | (apply WL.q; exact rfl; exact rfl; exact rfl; (first | (apply EvW.move; exact rfl) | (apply EvW.assign; exact rfl) | (apply EvW.max2; exact rfl; exact rfl) | (apply EvW.build; exact PlC.eq; exact ZvC.eq; exact rfl; exact rfl; (focus ((repeat (first | exact Fills.nil | (apply Fills.cons; exact rfl; (first | assumption | exact rfl); exact rfl) | exact SetMany.nil | apply SetMany.cons | apply SetMany.succ)); done)))))
    | refine WC.seq ?_ | refine WC.region ?_ | refine WL.nil ?_ | refine WE.next ?_ | refine WC.skip ?_ | refine WC.exit ?_ | refine WE.pass ?_ | refine WE.hit ?_ | refine WE.miss rfl ?_ | refine WE.out ?_ | refine WC.ret ?_ | refine WE.passRet ?_ | refine WE.outRet ?_ | refine WL.wanted rfl rfl rfl ?_
  try refine WL.wanted rfl rfl rfl ?_
  (apply WL.box; exact rfl; exact rfl; exact rfl; intro b)
  refine WL.ownNil 5 1 ?_
  repeat first
    | (apply WL.q; exact rfl; exact rfl; exact rfl; (first | (apply EvW.move; exact rfl) | (apply EvW.assign; exact rfl) | (apply EvW.max2; exact rfl; exact rfl) | (apply EvW.build; exact PlC.eq; exact ZvC.eq; exact rfl; exact rfl; (focus ((repeat (first | exact Fills.nil | (apply Fills.cons; exact rfl; (first | assumption | exact rfl); exact rfl) | exact SetMany.nil | apply SetMany.cons | apply SetMany.succ)); done)))))
    | refine WC.seq ?_ | refine WC.region ?_ | refine WL.nil ?_ | refine WE.next ?_ | refine WC.skip ?_ | refine WC.exit ?_ | refine WE.pass ?_ | refine WE.hit ?_ | refine WE.miss rfl ?_ | refine WE.out ?_ | refine WC.ret ?_ | refine WE.passRet ?_ | refine WE.outRet ?_ | refine WL.wanted rfl rfl rfl ?_
  refine WE.ret1 rfl rfl ?_
  exact ⟨b, rfl, rfl⟩
end Go.Proofs.Ytknclcjmfgdphaa
namespace Go.Proofs.Ytknclcjmfgdphaa
open Go.RowKit Go.BK
theorem read_spec (l : List UInt8) (w : World) (S : BSet) (hS : (sepL []).sat S w) :
    Tri Try.prog 74 #[str l] w S fun u A => ∃ b, u = ptr b 0 ∧ A = [.blk b #[i64 0, str l] 155] := by
  refine Tri.enter (l := [str l]) Try.func74 rfl Try.ntmps74 rfl [(0, str l)] (subA rfl) hS ?_
  repeat first
    | (apply WL.q; exact rfl; exact rfl; exact rfl; (first | (apply EvW.move; exact rfl) | (apply EvW.assign; exact rfl) | (apply EvW.build; exact PlC.eq; exact ZvC.eq; exact rfl; exact rfl; (focus ((repeat (first | exact Fills.nil | (apply Fills.cons; exact rfl; (first | assumption | exact rfl); exact rfl) | exact SetMany.nil | apply SetMany.cons | apply SetMany.succ)); done)))))
    | refine WC.seq ?_ | refine WC.region ?_ | refine WL.nil ?_ | refine WE.next ?_ | refine WC.skip ?_ | refine WC.exit ?_ | refine WE.pass ?_ | refine WE.hit ?_ | refine WE.miss rfl ?_ | refine WE.out ?_ | refine WC.ret ?_ | refine WE.passRet ?_ | refine WE.outRet ?_ | refine WL.wanted rfl rfl rfl ?_
  try refine WL.wanted rfl rfl rfl ?_
  (apply WL.box; exact rfl; exact rfl; exact rfl; intro b)
  repeat first
    | (apply WL.q; exact rfl; exact rfl; exact rfl; (first | (apply EvW.move; exact rfl) | (apply EvW.assign; exact rfl) | (apply EvW.build; exact PlC.eq; exact ZvC.eq; exact rfl; exact rfl; (focus ((repeat (first | exact Fills.nil | (apply Fills.cons; exact rfl; (first | assumption | exact rfl); exact rfl) | exact SetMany.nil | apply SetMany.cons | apply SetMany.succ)); done)))))
    | refine WC.seq ?_ | refine WC.region ?_ | refine WL.nil ?_ | refine WE.next ?_ | refine WC.skip ?_ | refine WC.exit ?_ | refine WE.pass ?_ | refine WE.hit ?_ | refine WE.miss rfl ?_ | refine WE.out ?_ | refine WC.ret ?_ | refine WE.passRet ?_ | refine WE.outRet ?_ | refine WL.wanted rfl rfl rfl ?_
  refine WE.ret1 rfl rfl ?_
  exact ⟨b, rfl, rfl⟩
theorem init_fits (n : Int) (r : Nat) (h : n ≤ 9223372036854775807) (hr : r ≤ 140737488355328) : (PW.init n).fits r := ⟨by simp only [PW.init]; omega, by simp only [PW.init]; omega, .inr (by simp [PW.init]; exact hr)⟩
end Go.Proofs.Ytknclcjmfgdphaa
namespace Go.Proofs.Ytknclcjmfgdphaa
open Go.RowKit Go.BK
/-- A reader: its error, what is left. -/
structure PR where
  e : Int
  s : List UInt8
def PR.note (m : PR) (c : Int) : PR := { m with e := if m.e = 0 then c else m.e }
/-- What is taken: whether, the bytes, the reader behind it. -/
def PR.take (m : PR) (skip n : Nat) : List UInt8 × PR :=
  if m.s.length < skip + n then ([], m.note 1) else if m.e = 0 then ((m.s.drop skip).take n, { m with s := m.s.drop (skip + n) }) else ([], m)
def numOf (l : List UInt8) : Int := l.foldl (fun x c => x * 256 + c.toNat) 0
theorem note_specR (b : Nat) (m : PR) (c : Int) (w : World) (S : BSet) (hS : (sepL [.blk b #[i64 (m).e, str (m).s] 155]).sat S w) :
    Tri Try.prog 80 #[ptr b 0, i64 c] w S fun u A => u = .tuple #[] ∧ A = [.blk b #[i64 (m.note c).e, str (m.note c).s] 155] :=
  note_spec b 155 m.e c [str m.s] _ rfl w S hS
theorem take_spec (b : Nat) (m : PR) (skip n : Nat) (w : World) (S : BSet) (hS : (sepL [.blk b #[i64 (m).e, str (m).s] 155]).sat S w) (hl : m.s.length ≤ 1152921504606846976) (hk : skip ≤ m.s.length) (hn : n ≤ 1152921504606846976) :
    Tri Try.prog 89 #[ptr b 0, i64 skip, i64 n] w S fun u A => u = str (m.take skip n).1 ∧ A = [.blk b #[i64 ((m.take skip n).2).e, str ((m.take skip n).2).s] 155] := by
  refine Tri.enter (l := [ptr b 0, i64 skip, i64 n]) Try.func89 rfl Try.ntmps89 rfl [(0, ptr b 0), (1, i64 skip), (2, i64 n)] (subA rfl) hS ?_
  by_cases h : (n : Int) > m.s.length - skip
  · have hm : m.take skip n = ([], m.note 1) := by unfold PR.take; rw [if_pos (by omega)]
    have hne : ¬ (m.note 1).e = 0 := by simp only [PR.note]; split <;> omega
    rw [hm]
    repeat first
      | (apply WL.q; exact rfl; exact rfl; exact rfl; (first | (apply EvW.move; exact rfl) | (apply EvW.assign; exact rfl) | (apply EvW.nilPtr; exact rfl) | (apply EvW.fieldAddr0; exact rfl; exact FldC.eq) | (apply EvW.load; exact rfl; exact ScalC.eq; (focus ((repeat constructor); done)); exact rfl) | (apply EvW.lenS; exact rfl; exact UndC.eq) | (apply EvW.cmpT; exact rfl; exact rfl; exact rfl; omega) | (apply EvW.arN; exact rfl; exact rfl; exact rfl; refine i64_in ?_ ?_ <;> omega)))
      | refine WC.seq ?_ | refine WC.region ?_ | refine WL.nil ?_ | refine WE.next ?_ | refine WC.condT rfl ?_
    try refine WL.wanted rfl rfl rfl ?_
    apply WL.callT
    · exact rfl
    · exact rfl
    · exact fun w1 S1 hS1 hs1 ho1 => note_specR b m 1 w1 S1 hS1
    · exact fun w => Try.call80 _ w
    · (focus ((repeat constructor); done))
    rintro _ _ ⟨rfl, rfl⟩
    first | refine WL.app4 ?_ | refine WL.app3 ?_ | refine WL.app2 ?_ | refine WL.app1 ?_ | refine WL.app0 ?_ | skip
    repeat first
      | (apply WL.q; exact rfl; exact rfl; exact rfl; (first | (apply EvW.move; exact rfl) | (apply EvW.nilPtr; exact rfl) | (apply EvW.fieldAddr0; exact rfl; exact FldC.eq)))
      | refine WC.seq ?_ | refine WC.region ?_ | refine WL.nil ?_ | refine WE.next ?_
    try refine WL.wanted rfl rfl rfl ?_
    apply WL.callT
    · exact rfl
    · exact rfl
    · exact fun w1 S1 hS1 hs1 ho1 => well_spec b 155 (m.note 1).e [str m.s] w1 S1 hS1
    · exact fun w => Try.call64 _ w
    · (focus ((repeat constructor); done))
    rintro _ _ ⟨rfl, rfl⟩
    first | refine WL.app4 ?_ | refine WL.app3 ?_ | refine WL.app2 ?_ | refine WL.app1 ?_ | refine WL.app0 ?_ | skip
    simp only [decide_eq_false hne]
    repeat first
      | (apply WL.q; exact rfl; exact rfl; exact rfl; (first | (apply EvW.assign; exact rfl) | (apply EvW.notF; exact rfl)))
      | refine WC.seq ?_ | refine WC.region ?_ | refine WL.nil ?_ | refine WE.next ?_ | refine WC.condT rfl ?_ | refine WC.ret ?_ | refine WE.passRet ?_
    refine WE.ret1 rfl rfl ?_
    exact ⟨rfl, rfl⟩
  · by_cases he : m.e = 0
    · have hm : m.take skip n = ((m.s.drop skip).take n, { m with s := m.s.drop (skip + n) }) := by unfold PR.take; rw [if_neg (by omega), if_pos he]
      rw [hm]
      repeat first
        | (apply WL.q; exact rfl; exact rfl; exact rfl; (first | (apply EvW.move; exact rfl) | (apply EvW.assign; exact rfl) | (apply EvW.nilPtr; exact rfl) | (apply EvW.fieldAddr0; exact rfl; exact FldC.eq) | (apply EvW.load; exact rfl; exact ScalC.eq; (focus ((repeat constructor); done)); exact rfl) | (apply EvW.lenS; exact rfl; exact UndC.eq) | (apply EvW.cmpF; exact rfl; exact rfl; exact rfl; omega) | (apply EvW.arN; exact rfl; exact rfl; exact rfl; refine i64_in ?_ ?_ <;> omega)))
        | refine WC.seq ?_ | refine WC.region ?_ | refine WL.nil ?_ | refine WE.next ?_ | refine WC.skip ?_ | refine WC.condF rfl ?_
      try refine WL.wanted rfl rfl rfl ?_
      apply WL.callT
      · exact rfl
      · exact rfl
      · exact fun w1 S1 hS1 hs1 ho1 => well_spec b 155 m.e [str m.s] w1 S1 hS1
      · exact fun w => Try.call64 _ w
      · (focus ((repeat constructor); done))
      rintro _ _ ⟨rfl, rfl⟩
      first | refine WL.app4 ?_ | refine WL.app3 ?_ | refine WL.app2 ?_ | refine WL.app1 ?_ | refine WL.app0 ?_ | skip
      simp only [decide_eq_true he]
      repeat first
        | (apply WL.q; exact rfl; exact rfl; exact rfl; (first | (apply EvW.move; exact rfl) | (apply EvW.assign; exact rfl) | (apply EvW.nilPtr; exact rfl) | (apply EvW.fieldAddr0; exact rfl; exact FldC.eq) | (apply EvW.load; exact rfl; exact ScalC.eq; (focus ((repeat constructor); done)); exact rfl) | (apply EvW.arN; exact rfl; exact rfl; exact rfl; refine i64_in ?_ ?_ <;> omega) | (apply EvW.notT; exact rfl) | (apply EvW.sliceS; exact rfl; exact UndC.eq; exact rfl; exact rfl; omega; omega; omega) | (apply EvW.sliceS_lo; exact rfl; exact UndC.eq; exact rfl; omega; omega)))
        | refine WC.seq ?_ | refine WC.region ?_ | refine WL.nil ?_ | refine WE.next ?_ | refine WC.skip ?_ | refine WC.condF rfl ?_ | refine WC.ret ?_ | (apply WL.store; exact rfl; exact rfl; (first | assumption | exact rfl); exact SzC.eq; (first | assumption | exact rfl); (focus ((repeat constructor); done)))
      refine WE.ret1 rfl rfl ?_
      have e1 : ((skip : Int) + (n : Int)).toNat = skip + n := by omega
      have e2 : ((skip : Int)).toNat = skip := by omega
      exact ⟨by rw [e1, e2, List.drop_take]; (try rw [Nat.add_sub_cancel_left]), by rw [e1]; (try rfl)⟩
    · have hm : m.take skip n = ([], m) := by unfold PR.take; rw [if_neg (by omega), if_neg he]
      rw [hm]
      repeat first
        | (apply WL.q; exact rfl; exact rfl; exact rfl; (first | (apply EvW.move; exact rfl) | (apply EvW.assign; exact rfl) | (apply EvW.nilPtr; exact rfl) | (apply EvW.fieldAddr0; exact rfl; exact FldC.eq) | (apply EvW.load; exact rfl; exact ScalC.eq; (focus ((repeat constructor); done)); exact rfl) | (apply EvW.lenS; exact rfl; exact UndC.eq) | (apply EvW.cmpF; exact rfl; exact rfl; exact rfl; omega) | (apply EvW.arN; exact rfl; exact rfl; exact rfl; refine i64_in ?_ ?_ <;> omega)))
        | refine WC.seq ?_ | refine WC.region ?_ | refine WL.nil ?_ | refine WE.next ?_ | refine WC.skip ?_ | refine WC.condF rfl ?_
      try refine WL.wanted rfl rfl rfl ?_
      apply WL.callT
      · exact rfl
      · exact rfl
      · exact fun w1 S1 hS1 hs1 ho1 => well_spec b 155 m.e [str m.s] w1 S1 hS1
      · exact fun w => Try.call64 _ w
      · (focus ((repeat constructor); done))
      rintro _ _ ⟨rfl, rfl⟩
      first | refine WL.app4 ?_ | refine WL.app3 ?_ | refine WL.app2 ?_ | refine WL.app1 ?_ | refine WL.app0 ?_ | skip
      simp only [decide_eq_false he]
      repeat first
        | (apply WL.q; exact rfl; exact rfl; exact rfl; (first | (apply EvW.assign; exact rfl) | (apply EvW.notF; exact rfl)))
        | refine WC.seq ?_ | refine WC.region ?_ | refine WL.nil ?_ | refine WE.next ?_ | refine WC.condT rfl ?_ | refine WC.ret ?_ | refine WE.passRet ?_
      refine WE.ret1 rfl rfl ?_
      exact ⟨rfl, rfl⟩
def PR.fin (m : PR) : Int := if m.e = 0 ∧ m.s ≠ [] then 3 else m.e
theorem rend_spec (b : Nat) (m : PR) (w : World) (S : BSet) (hS : (sepL [.blk b #[i64 (m).e, str (m).s] 155]).sat S w) :
    Tri Try.prog 77 #[ptr b 0] w S fun u A => u = i64 m.fin ∧ A = [.blk b #[i64 (m).e, str (m).s] 155] := by
  refine Tri.enter (l := [ptr b 0]) Try.func77 rfl Try.ntmps77 rfl [(0, ptr b 0)] (subA rfl) hS ?_
  repeat first
    | (apply WL.q; exact rfl; exact rfl; exact rfl; (first | (apply EvW.move; exact rfl) | (apply EvW.assign; exact rfl) | (apply EvW.nilPtr; exact rfl) | (apply EvW.fieldAddr0; exact rfl; exact FldC.eq)))
    | refine WC.seq ?_ | refine WC.region ?_ | refine WL.nil ?_ | refine WE.next ?_
  try refine WL.wanted rfl rfl rfl ?_
  apply WL.callT
  · exact rfl
  · exact rfl
  · exact fun w1 S1 hS1 hs1 ho1 => well_spec b 155 m.e [str m.s] w1 S1 hS1
  · exact fun w => Try.call64 _ w
  · (focus ((repeat constructor); done))
  rintro _ _ ⟨rfl, rfl⟩
  first | refine WL.app4 ?_ | refine WL.app3 ?_ | refine WL.app2 ?_ | refine WL.app1 ?_ | refine WL.app0 ?_ | skip
  by_cases he : m.e = 0
  · simp only [decide_eq_true he]
    by_cases hs : m.s = []
    · repeat first
        | (apply WL.q; exact rfl; exact rfl; exact rfl; (first | (apply EvW.move; exact rfl) | (apply EvW.nilPtr; exact rfl) | (apply EvW.fieldAddr0; exact rfl; exact FldC.eq) | (apply EvW.load; exact rfl; exact ScalC.eq; (focus ((repeat constructor); done)); exact rfl) | (apply EvW.pickT; exact rfl; exact rfl) | (apply EvW.sne; exact rfl; exact rfl)))
        | refine WL.nil ?_ | refine WE.next ?_ | refine WL.wanted rfl rfl rfl ?_
      simp only [decide_eq_false (show ¬ m.s ≠ [] by simp [hs])]
      repeat first
        | (apply WL.q; exact rfl; exact rfl; exact rfl; (first | (apply EvW.move; exact rfl) | (apply EvW.assign; exact rfl) | (apply EvW.nilPtr; exact rfl) | (apply EvW.fieldAddr0; exact rfl; exact FldC.eq) | (apply EvW.load; exact rfl; exact ScalC.eq; (focus ((repeat constructor); done)); exact rfl)))
        | refine WC.seq ?_ | refine WC.region ?_ | refine WL.nil ?_ | refine WE.next ?_ | refine WC.skip ?_ | refine WC.condF rfl ?_ | refine WC.ret ?_
      refine WE.ret1 rfl rfl ?_
      exact ⟨by simp [PR.fin, hs], rfl⟩
    · repeat first
        | (apply WL.q; exact rfl; exact rfl; exact rfl; (first | (apply EvW.move; exact rfl) | (apply EvW.nilPtr; exact rfl) | (apply EvW.fieldAddr0; exact rfl; exact FldC.eq) | (apply EvW.load; exact rfl; exact ScalC.eq; (focus ((repeat constructor); done)); exact rfl) | (apply EvW.pickT; exact rfl; exact rfl) | (apply EvW.sne; exact rfl; exact rfl)))
        | refine WL.nil ?_ | refine WE.next ?_ | refine WL.wanted rfl rfl rfl ?_
      simp only [decide_eq_true (show m.s ≠ [] by simp [hs])]
      repeat first
        | (apply WL.q; exact rfl; exact rfl; exact rfl; (first | (apply EvW.assign; exact rfl)))
        | refine WC.seq ?_ | refine WC.region ?_ | refine WL.nil ?_ | refine WE.next ?_ | refine WC.condT rfl ?_ | refine WC.ret ?_ | refine WE.passRet ?_
      refine WE.ret1 rfl rfl ?_
      exact ⟨by simp [PR.fin, hs, he], rfl⟩
  · simp only [decide_eq_false he]
    repeat first
      | (apply WL.q; exact rfl; exact rfl; exact rfl; (first | (apply EvW.move; exact rfl) | (apply EvW.assign; exact rfl) | (apply EvW.nilPtr; exact rfl) | (apply EvW.fieldAddr0; exact rfl; exact FldC.eq) | (apply EvW.load; exact rfl; exact ScalC.eq; (focus ((repeat constructor); done)); exact rfl) | (apply EvW.pickF; exact rfl; exact rfl)))
      | refine WC.seq ?_ | refine WC.region ?_ | refine WL.nil ?_ | refine WE.next ?_ | refine WC.skip ?_ | refine WC.condF rfl ?_ | refine WC.ret ?_ | refine WL.unwanted rfl rfl rfl rfl ?_
    refine WE.ret1 rfl rfl ?_
    exact ⟨by simp [PR.fin, he], rfl⟩
theorem or_byte (x : Int) (c : UInt8) (h0 : 0 ≤ x) (h1 : x < 1099511627776) : IntKind.i64.wrap (BitVec.ofInt IntKind.i64.bits (IntKind.i64.wrap (x * 2 ^ (min (8 : Int).toNat IntKind.i64.bits))) ||| BitVec.ofInt IntKind.i64.bits (c.toNat : Int)).toNat = x * 256 + c.toNat := by
  obtain ⟨k, rfl⟩ := Int.eq_ofNat_of_zero_le h0
  have hc := c.toNat_lt
  have e1 : (min (8 : Int).toNat IntKind.i64.bits) = 8 := by decide
  have e2 : ((k : Int) * 2 ^ 8) = ((k * 256 : Nat) : Int) := by simp
  rw [e1, e2, wrap_in IntKind.i64 (x := ((k * 256 : Nat) : Int)) (i64_in (by omega) (by omega))]
  have e3 : IntKind.i64.bits = 64 := rfl
  rw [e3]
  have e4 : (BitVec.ofInt 64 ((k * 256 : Nat) : Int) ||| BitVec.ofInt 64 (c.toNat : Int)).toNat = k * 256 + c.toNat := by
    rw [BitVec.toNat_or, BitVec.ofInt_natCast, BitVec.ofInt_natCast, BitVec.toNat_ofNat, BitVec.toNat_ofNat, Nat.mod_eq_of_lt (by omega), Nat.mod_eq_of_lt (by omega)]
    have := Nat.shiftLeft_add_eq_or_of_lt (show c.toNat < 2 ^ 8 by omega) k
    rw [Nat.shiftLeft_eq] at this
    exact this.symm
  rw [e4, wrap_in IntKind.i64 (i64_in (by omega) (by omega))]
  simp
theorem numOf_snoc (l : List UInt8) (c : UInt8) : numOf (l ++ [c]) = numOf l * 256 + c.toNat := by simp [numOf]
theorem numOf_bd : ∀ (l : List UInt8), 0 ≤ numOf l ∧ numOf l < 256 ^ l.length := by
  intro l
  induction h : l.length generalizing l with
  | zero => rw [List.length_eq_zero_iff.1 h]; simp [numOf]
  | succ n ih =>
    have hne : l ≠ [] := by intro h'; rw [h'] at h; simp at h
    have hl := List.dropLast_concat_getLast hne
    have := ih l.dropLast (by simp [h])
    rw [← hl, numOf_snoc]
    have hc := (l.getLast hne).toNat_lt
    rw [Int.pow_succ]
    omega
theorem PR.take_len (m : PR) (a k : Nat) : (m.take a k).1.length ≤ k := by
  unfold PR.take
  split
  · simp
  · split
    · simp; omega
    · simp
theorem rfixed_spec (b : Nat) (m : PR) (k : Nat) (hk : k ≤ 4) (w : World) (S : BSet) (hS : (sepL [.blk b #[i64 (m).e, str (m).s] 155]).sat S w) (hl : m.s.length ≤ 1152921504606846976) :
    Tri Try.prog 86 #[ptr b 0, i64 k] w S fun u A => u = i64 (numOf (m.take 0 k).1) ∧ A = [.blk b #[i64 ((m.take 0 k).2).e, str ((m.take 0 k).2).s] 155] := by
  have htl := m.take_len 0 k
  refine Tri.enter (l := [ptr b 0, i64 k]) Try.func86 rfl Try.ntmps86 rfl [(0, ptr b 0), (1, i64 k)] (subA rfl) hS ?_
  repeat first
    | (apply WL.q; exact rfl; exact rfl; exact rfl; (first | (apply EvW.move; exact rfl) | (apply EvW.assign; exact rfl)))
    | refine WC.seq ?_ | refine WC.region ?_ | refine WL.nil ?_ | refine WE.next ?_
  try refine WL.wanted rfl rfl rfl ?_
  apply WL.callT
  · exact rfl
  · exact rfl
  · exact fun w1 S1 hS1 hs1 ho1 => take_spec b m 0 k w1 S1 hS1 hl (Nat.zero_le _) (by omega)
  · exact fun w => Try.call89 _ w
  · (focus ((repeat constructor); done))
  rintro _ _ ⟨rfl, rfl⟩
  first | refine WL.app4 ?_ | refine WL.app3 ?_ | refine WL.app2 ?_ | refine WL.app1 ?_ | refine WL.app0 ?_ | skip
  generalize (m.take 0 k).1 = l at htl
  generalize (m.take 0 k).2 = m2
  skip
  try refine WL.wanted rfl rfl rfl ?_
  (apply WL.bytesOf; exact rfl; exact rfl; exact UndC.eq; exact UndC.eq; exact UndC.eq; intro v)
  repeat first
    | (apply WL.q; exact rfl; exact rfl; exact rfl; (first | (apply EvW.move; exact rfl) | (apply EvW.lenOwn; exact rfl; exact UndC.eq; (focus ((repeat constructor); done)))))
    | refine WL.nil ?_ | refine WE.next ?_ | refine WC.block ?_
  refine WC.loop (σ := Nat) (fun s => [(13, i64 s), (12, i64 l.length), (11, v), (5, i64 (numOf (l.take s)))]) (fun _ => [.own 5 1 v l.length (l.map byt), .blk b #[i64 (m2).e, str (m2).s] 155]) (fun s => s ≤ l.length) (fun s => l.length - s) 0 ⟨rfl, rfl, rfl, rfl, trivial⟩ (fun _ h => h) (Nat.zero_le _) (fun s hs => ?_)
  by_cases hlt : (s : Int) < l.length
  · have hb := numOf_bd (l.take s)
    have hp : (256 : Int) ^ (l.take s).length ≤ 256 ^ 4 := by
      have h2 : (l.take s).length ≤ 4 := by simp; omega
      have h3 : (256 : Nat) ^ (l.take s).length ≤ 256 ^ 4 := Nat.pow_le_pow_right (by decide) h2
      have h4 := Int.ofNat_le.2 h3
      rw [Int.natCast_pow, Int.natCast_pow] at h4
      exact h4
    have hc := (l.getD ((s : Nat) : Int).toNat 0).toNat_lt
    have hn : numOf (l.take (s + 1)) = numOf (l.take s) * 256 + (l.getD s 0).toNat := by
      rw [List.take_add_one, List.getElem?_eq_getElem (by omega), Option.toList_some, numOf_snoc]
      simp [List.getD_eq_getElem?_getD, List.getElem?_eq_getElem (show s < l.length by omega)]
    repeat first
      | (apply WL.q; exact rfl; exact rfl; exact rfl; (first | (apply EvW.move; exact rfl) | (apply EvW.assign; exact rfl) | (apply EvW.cmpT; exact rfl; exact rfl; exact rfl; omega) | (apply EvW.arN; exact rfl; exact rfl; exact rfl; refine i64_in ?_ ?_ <;> omega) | (apply EvW.ar; exact rfl; exact rfl; exact rfl) | (apply EvW.convN; exact rfl; exact UndC.eq; exact UndC.eq; refine i64_in ?_ ?_ <;> omega) | (apply EvW.shl; exact rfl; exact rfl; omega) | (apply EvW.ldBytOwn; exact rfl; exact ScalC.eq; (focus ((repeat constructor); done)); omega) | (apply EvW.idxOwn; exact rfl; exact rfl; exact UndC.eq; exact SzC.eq; (focus ((repeat constructor); done)); omega; omega)))
      | refine WC.seq ?_ | refine WC.region ?_ | refine WL.nil ?_ | refine WE.next ?_ | refine WC.block ?_ | refine WC.skip ?_ | refine WE.out ?_ | refine WC.condT rfl ?_
    refine WE.again (s + 1) (by omega) ⟨rfl, rfl, rfl, ?_, trivial⟩ (fun _ h => h) (by omega)
    rw [hn, ← or_byte _ _ hb.1 (by omega)]
    rfl
  · obtain rfl : s = l.length := by omega
    rw [List.take_length]
    repeat first
      | (apply WL.q; exact rfl; exact rfl; exact rfl; (first | (apply EvW.move; exact rfl) | (apply EvW.assign; exact rfl) | (apply EvW.cmpF; exact rfl; exact rfl; exact rfl; omega)))
      | refine WC.seq ?_ | refine WC.region ?_ | refine WL.nil ?_ | refine WE.next ?_ | refine WC.exit ?_ | refine WE.pass ?_ | refine WE.hit ?_ | refine WC.condF rfl ?_ | refine WC.ret ?_
    refine WE.keep (xs := [.blk b #[i64 (m2).e, str (m2).s] 155]) (by repeat constructor) ?_
    refine WE.ret1 rfl rfl ?_
    exact ⟨rfl, rfl⟩
end Go.Proofs.Ytknclcjmfgdphaa
namespace Go.Proofs.Ytknclcjmfgdphaa
open Go.RowKit Go.BK
def PR.num (m : PR) (k : Nat) : Int × PR := (numOf (m.take 0 k).1, (m.take 0 k).2)
def PR.text (m : PR) : List UInt8 × PR := if m.s = [] then ([], m.note 1) else m.take 1 (m.s.getD 0 0).toNat
theorem rbyte_spec (b : Nat) (m : PR) (w : World) (S : BSet) (hS : (sepL [.blk b #[i64 (m).e, str (m).s] 155]).sat S w) (hl : m.s.length ≤ 1152921504606846976) :
    Tri Try.prog 75 #[ptr b 0] w S fun u A => u = i64 (m.num 1).1 ∧ A = [.blk b #[i64 ((m.num 1).2).e, str ((m.num 1).2).s] 155] := by
  refine Tri.enter (l := [ptr b 0]) Try.func75 rfl Try.ntmps75 rfl [(0, ptr b 0)] (subA rfl) hS ?_
  repeat first
    | (apply WL.q; exact rfl; exact rfl; exact rfl; (first | (apply EvW.move; exact rfl) | (apply EvW.assign; exact rfl)))
    | refine WC.seq ?_ | refine WC.region ?_ | refine WL.nil ?_ | refine WE.next ?_ | refine WC.skip ?_ | refine WC.exit ?_ | refine WE.pass ?_ | refine WE.hit ?_ | refine WE.miss rfl ?_ | refine WE.out ?_ | refine WC.ret ?_ | refine WE.passRet ?_ | refine WE.outRet ?_ | refine WL.wanted rfl rfl rfl ?_
  try refine WL.wanted rfl rfl rfl ?_
  apply WL.callT
  · exact rfl
  · exact rfl
  · exact fun w1 S1 hS1 hs1 ho1 => rfixed_spec b m 1 (by decide) w1 S1 hS1 hl
  · exact fun w => Try.call86 _ w
  · (focus ((repeat constructor); done))
  rintro _ _ ⟨rfl, rfl⟩
  first | refine WL.app4 ?_ | refine WL.app3 ?_ | refine WL.app2 ?_ | refine WL.app1 ?_ | refine WL.app0 ?_ | skip
  repeat first
    | (apply WL.q; exact rfl; exact rfl; exact rfl; (first | (apply EvW.move; exact rfl) | (apply EvW.assign; exact rfl)))
    | refine WC.seq ?_ | refine WC.region ?_ | refine WL.nil ?_ | refine WE.next ?_ | refine WC.skip ?_ | refine WC.exit ?_ | refine WE.pass ?_ | refine WE.hit ?_ | refine WE.miss rfl ?_ | refine WE.out ?_ | refine WC.ret ?_ | refine WE.passRet ?_ | refine WE.outRet ?_ | refine WL.wanted rfl rfl rfl ?_
  refine WE.ret1 rfl rfl ?_
  exact ⟨rfl, rfl⟩
theorem rword_spec (b : Nat) (m : PR) (w : World) (S : BSet) (hS : (sepL [.blk b #[i64 (m).e, str (m).s] 155]).sat S w) (hl : m.s.length ≤ 1152921504606846976) :
    Tri Try.prog 88 #[ptr b 0] w S fun u A => u = i64 (m.num 2).1 ∧ A = [.blk b #[i64 ((m.num 2).2).e, str ((m.num 2).2).s] 155] := by
  refine Tri.enter (l := [ptr b 0]) Try.func88 rfl Try.ntmps88 rfl [(0, ptr b 0)] (subA rfl) hS ?_
  repeat first
    | (apply WL.q; exact rfl; exact rfl; exact rfl; (first | (apply EvW.move; exact rfl) | (apply EvW.assign; exact rfl)))
    | refine WC.seq ?_ | refine WC.region ?_ | refine WL.nil ?_ | refine WE.next ?_ | refine WC.skip ?_ | refine WC.exit ?_ | refine WE.pass ?_ | refine WE.hit ?_ | refine WE.miss rfl ?_ | refine WE.out ?_ | refine WC.ret ?_ | refine WE.passRet ?_ | refine WE.outRet ?_ | refine WL.wanted rfl rfl rfl ?_
  try refine WL.wanted rfl rfl rfl ?_
  apply WL.callT
  · exact rfl
  · exact rfl
  · exact fun w1 S1 hS1 hs1 ho1 => rfixed_spec b m 2 (by decide) w1 S1 hS1 hl
  · exact fun w => Try.call86 _ w
  · (focus ((repeat constructor); done))
  rintro _ _ ⟨rfl, rfl⟩
  first | refine WL.app4 ?_ | refine WL.app3 ?_ | refine WL.app2 ?_ | refine WL.app1 ?_ | refine WL.app0 ?_ | skip
  repeat first
    | (apply WL.q; exact rfl; exact rfl; exact rfl; (first | (apply EvW.move; exact rfl) | (apply EvW.assign; exact rfl)))
    | refine WC.seq ?_ | refine WC.region ?_ | refine WL.nil ?_ | refine WE.next ?_ | refine WC.skip ?_ | refine WC.exit ?_ | refine WE.pass ?_ | refine WE.hit ?_ | refine WE.miss rfl ?_ | refine WE.out ?_ | refine WC.ret ?_ | refine WE.passRet ?_ | refine WE.outRet ?_ | refine WL.wanted rfl rfl rfl ?_
  refine WE.ret1 rfl rfl ?_
  exact ⟨rfl, rfl⟩
theorem rlong_spec (b : Nat) (m : PR) (w : World) (S : BSet) (hS : (sepL [.blk b #[i64 (m).e, str (m).s] 155]).sat S w) (hl : m.s.length ≤ 1152921504606846976) :
    Tri Try.prog 76 #[ptr b 0] w S fun u A => u = i64 (m.num 4).1 ∧ A = [.blk b #[i64 ((m.num 4).2).e, str ((m.num 4).2).s] 155] := by
  refine Tri.enter (l := [ptr b 0]) Try.func76 rfl Try.ntmps76 rfl [(0, ptr b 0)] (subA rfl) hS ?_
  repeat first
    | (apply WL.q; exact rfl; exact rfl; exact rfl; (first | (apply EvW.move; exact rfl) | (apply EvW.assign; exact rfl)))
    | refine WC.seq ?_ | refine WC.region ?_ | refine WL.nil ?_ | refine WE.next ?_ | refine WC.skip ?_ | refine WC.exit ?_ | refine WE.pass ?_ | refine WE.hit ?_ | refine WE.miss rfl ?_ | refine WE.out ?_ | refine WC.ret ?_ | refine WE.passRet ?_ | refine WE.outRet ?_ | refine WL.wanted rfl rfl rfl ?_
  try refine WL.wanted rfl rfl rfl ?_
  apply WL.callT
  · exact rfl
  · exact rfl
  · exact fun w1 S1 hS1 hs1 ho1 => rfixed_spec b m 4 (by decide) w1 S1 hS1 hl
  · exact fun w => Try.call86 _ w
  · (focus ((repeat constructor); done))
  rintro _ _ ⟨rfl, rfl⟩
  first | refine WL.app4 ?_ | refine WL.app3 ?_ | refine WL.app2 ?_ | refine WL.app1 ?_ | refine WL.app0 ?_ | skip
  repeat first
    | (apply WL.q; exact rfl; exact rfl; exact rfl; (first | (apply EvW.move; exact rfl) | (apply EvW.assign; exact rfl)))
    | refine WC.seq ?_ | refine WC.region ?_ | refine WL.nil ?_ | refine WE.next ?_ | refine WC.skip ?_ | refine WC.exit ?_ | refine WE.pass ?_ | refine WE.hit ?_ | refine WE.miss rfl ?_ | refine WE.out ?_ | refine WC.ret ?_ | refine WE.passRet ?_ | refine WE.outRet ?_ | refine WL.wanted rfl rfl rfl ?_
  refine WE.ret1 rfl rfl ?_
  exact ⟨rfl, rfl⟩
theorem bytOf_nat (x : Int) : ((bytOf x).toNat : Int) = x % 256 := by
  have h := byt_of x
  simp only [byt, Value.int.injEq, true_and] at h
  rw [h]
  simp [IntKind.wrap, IntKind.signed, IntKind.bits]
theorem fdiv_two (n : Int) (k : Nat) : n.fdiv (2 ^ k) = n / 2 ^ k := Int.fdiv_eq_ediv_of_nonneg _ (Int.le_of_lt (Int.pow_pos (by decide)))
theorem numOf_be1 (n : Int) (h0 : 0 ≤ n) (h1 : n < 256) : numOf (be 1 n) = n := by
  simp [be, List.range_succ, numOf, bytOf_nat, fdiv_two]; omega
theorem numOf_be2 (n : Int) (h0 : 0 ≤ n) (h1 : n < 65536) : numOf (be 2 n) = n := by
  simp [be, List.range_succ, numOf, bytOf_nat, fdiv_two]; omega
theorem numOf_be4 (n : Int) (h0 : 0 ≤ n) (h1 : n < 4294967296) : numOf (be 4 n) = n := by
  simp [be, List.range_succ, numOf, bytOf_nat, fdiv_two]; omega
theorem num_fit (k : Nat) (n : Int) (h0 : 0 ≤ n) (h1 : n < 2 ^ (8 * k)) : (PW.init k).num k n = ⟨0, be k n, k⟩ := by
  unfold PW.num
  rw [if_neg]
  · unfold PW.put
    rw [be_length, if_neg (by simp [PW.init]), if_pos (show (PW.init (k : Int)).e = 0 from rfl)]
    simp only [PW.add, PW.init, List.nil_append, PW.mk.injEq, true_and]
    omega
  · intro h
    rcases h with h | h
    · omega
    · apply h
      rw [fdiv_two]
      exact Int.ediv_eq_zero_of_lt h0 h1
end Go.Proofs.Ytknclcjmfgdphaa
namespace Go.Proofs.Ytknclcjmfgdphaa
open Go.RowKit Go.BK
theorem num_bad (m : PR) (k : Nat) (h : m.e = 1 ∨ m.s.length < k) (he : m.e = 0 ∨ m.e = 1) : m.num k = (0, ⟨1, m.s⟩) := by
  unfold PR.num PR.take
  by_cases hs : m.s.length < k
  · rw [if_pos (by omega)]; rcases he with he | he <;> simp [PR.note, he, numOf]
  · have h1 : m.e = 1 := h.resolve_right hs
    rw [if_neg (by omega), if_neg (by omega)]
    simp only [numOf, List.foldl_nil, Prod.mk.injEq, true_and]
    cases m; simp_all
theorem num_good (m : PR) (k : Nat) (he : m.e = 0) (hs : k ≤ m.s.length) : m.num k = (numOf (m.s.take k), ⟨0, m.s.drop k⟩) := by
  unfold PR.num PR.take
  rw [if_neg (by omega), if_pos he]
  simp [he]
end Go.Proofs.Ytknclcjmfgdphaa
namespace Go.Proofs.Ytknclcjmfgdphaa
open Go.RowKit Go.BK
def J (l : List UInt8) (m : PR) (W : PW) : Prop := (m.e = 0 ∨ m.e = 1) ∧ (∀ r, W.fits r) ∧ W.lim = l.length ∧ m.s.length ≤ 140737488355328 ∧ (m.e = 0 → W.e = 0 ∧ W.out ++ m.s = l)
end Go.Proofs.Ytknclcjmfgdphaa
namespace Go.BK
open Go.RowKit Go.ChangeShapes Go.WideShapes Go.ChangeAt Go.ChangeMaps Go.Deep
section
variable {H : Type} {enc : TypeId × Value → H} {P : Program} {W : World}
/-- What is read as type e is f of something of which Q holds. -/
def Opens (enc : TypeId × Value → H) (P : Program) (W : World) (e : TypeId) {α : Type} (f : α → List Value) (Q : α → Prop) : Prop :=
  ∀ n cs x, DataW.trod enc P W 0 (fun _ => true) true n e cs = some x → (∀ k ∈ x.1.weights P e, k ≤ reachBytes) → ∃ a, cs = f a ∧ Q a
theorem Opens.map {e : TypeId} {α β : Type} {f : α → List Value} {Q : α → Prop} {f' : β → List Value} {Q' : β → Prop} (h : Opens enc P W e f Q) (g : α → β) (hf : ∀ a, Q a → f a = f' (g a)) (hQ : ∀ a, Q a → Q' (g a)) : Opens enc P W e f' Q' :=
  fun n cs x hx hw => by
    obtain ⟨a, h1, h2⟩ := h n cs x hx hw
    exact ⟨g a, by rw [h1, hf a h2], hQ a h2⟩
theorem Opens.int {e : TypeId} {k : IntKind} (hu : P.underlying e = some (.int k)) : Opens enc P W e (fun a : Int => [.int k a]) (fun a => (Lit.int k a).wf = true) :=
  fun n cs x hx _ => by
    obtain ⟨a, h1, _, h2⟩ := DataW.trod_int hu hx
    exact ⟨a, h1, h2⟩
theorem Opens.bool {e : TypeId} (hu : P.underlying e = some .bool) : Opens enc P W e (fun a : Bool => [.bool a]) (fun _ => True) :=
  fun n cs x hx _ => by
    obtain ⟨a, h1, _⟩ := DataW.trod_bool hu hx
    exact ⟨a, h1, trivial⟩
theorem Opens.str {e : TypeId} (hu : P.underlying e = some .string) : Opens enc P W e (fun l : List UInt8 => [str l]) (fun l => l.length ≤ 140737488351232) :=
  fun n cs x hx hw => by
    obtain ⟨s, h1, h2, _⟩ := DataW.trod_string hu hx
    refine ⟨s.data.toList, by rw [h1], ?_⟩
    subst h2
    have := hw s.data.toList.length (by simp [DataW.weights])
    simpa [reachBytes] using this
theorem weights_all_mem {e : TypeId} {l : List (DataW H)} {d : DataW H} {k : Nat} (hd : d ∈ l) (hk : k ∈ d.weights P e) : k ∈ DataW.weightsAll P e l := by
  induction l with
  | nil => cases hd
  | cons x r ih =>
    simp only [DataW.weightsAll, List.mem_append]
    rcases List.mem_cons.1 hd with rfl | h
    · exact .inl hk
    · exact .inr (ih h)
theorem exists_list {α : Type} {p : Nat → α → Prop} : ∀ (n : Nat), (∀ i, i < n → ∃ a, p i a) → ∃ l : List α, l.length = n ∧ ∀ (i : Nat) (a : α), l[i]? = some a → p i a
  | 0, _ => ⟨[], rfl, fun i a h => by simp at h⟩
  | n + 1, h => by
    obtain ⟨l, h1, h2⟩ := exists_list n fun i hi => h i (by omega)
    obtain ⟨a, ha⟩ := h n (by omega)
    refine ⟨l ++ [a], by simp [h1], fun i b hb => ?_⟩
    by_cases hi : i < l.length
    · rw [List.getElem?_append_left hi] at hb; exact h2 i b hb
    · rw [List.getElem?_append_right (by omega)] at hb
      have h0 : i - l.length = 0 := by
        have := (List.getElem?_eq_some_iff.1 hb).1
        simp at this; omega
      rw [h0] at hb; simp at hb; subst hb
      have : i = n := by omega
      rw [this]; exact ha
theorem flat_at {α : Type} {sz : Nat} {f : α → List Value} : ∀ {xs : List α} {k : Nat} {u : Value}, (∀ a, (f a).length = sz) → (xs.flatMap f)[k]? = some u → ∃ i j a, k = i * sz + j ∧ j < sz ∧ xs[i]? = some a ∧ (f a)[j]? = some u := by
  intro xs
  induction xs with
  | nil => intro k u _ h; simp at h
  | cons x r ih =>
    intro k u hf h
    simp only [List.flatMap_cons] at h
    by_cases hk : k < sz
    · rw [List.getElem?_append_left (by rw [hf]; exact hk)] at h
      exact ⟨0, k, x, by omega, hk, rfl, h⟩
    · rw [List.getElem?_append_right (by rw [hf]; omega), hf] at h
      obtain ⟨i, j, a, h1, h2, h3, h4⟩ := ih hf h
      exact ⟨i + 1, j, a, by rw [Nat.add_mul]; omega, h2, by simpa using h3, h4⟩
theorem Opens.slice {t e : TypeId} {sz : Nat} {α : Type} {f : α → List Value} {Q : α → Prop} (ht : P.underlying t = some (.slice e)) (hsz : P.cellsOf e = sz) (hpos : 0 < sz) (hf : ∀ a, (f a).length = sz) (h : Opens enc P W e f Q) :
    Opens enc P W t (fun p : Value × List α => [p.1]) (fun p => Sees W (fun _ => False) (.row sz p.1 p.2.length (p.2.flatMap f)) ∧ (∀ x ∈ p.2, Q x) ∧ p.2.length * P.bytesOf e ≤ 140737488351232) := by
  intro n cs x hx hw
  rcases open_slice ht hx with ⟨h1, h2⟩ | ⟨a, len, cap, m, n', D, Pl, rfl, _, hl, _, hmm, rfl, hel⟩
  · exact ⟨(.slice none 0 0, []), h1, Sees.nilRow, (fun x hx => by cases hx), by simp⟩
  · simp only [↓reduceIte] at hmm
    subst hmm
    have hmem : ∀ i, i < len → ∃ q : α, (∃ cs', W.cells? 0 (a.add (i * P.cellsOf e)) (P.cellsOf e) = some cs' ∧ cs' = f q) ∧ Q q := fun i hi => by
      obtain ⟨cs', h1, h2⟩ := hel i (by omega)
      obtain ⟨q, h3, h4⟩ := h n' cs' _ h2 fun k hk => hw k (by
        simp only [DataW.weights, ht, List.mem_cons, List.mem_append]
        refine .inr (.inl (weights_all_mem (List.mem_map.2 ⟨i, List.mem_range.2 hi, rfl⟩) hk)))
      exact ⟨q, ⟨cs', h1, h3⟩, h4⟩
    obtain ⟨xs, hxl, hxs⟩ := exists_list len hmem
    refine ⟨(.slice (some a) len m, xs), rfl, ?_, fun q hq => ?_, ?_⟩
    · simp only []
      rw [hxl]
      have hfl : (xs.flatMap f).length = len * sz := by
        rw [← hxl]
        clear hxs hxl
        induction xs with
        | nil => simp
        | cons y r ih => simp [hf, ih, Nat.add_mul, Nat.add_comm]
      refine row_of_cells hfl hl hpos fun k u hk => ?_
      obtain ⟨i, j, q, h1, h2, h3, h4⟩ := flat_at hf hk
      obtain ⟨⟨cs', h5, h6⟩, _⟩ := hxs i q h3
      obtain ⟨_, hlen, hcell⟩ := World.cells?_some h5
      have := hcell j (by rw [hsz]; exact h2)
      rw [add_add, hsz, ← h1] at this
      rw [this, h6, h4]
    · obtain ⟨i, hi, rfl⟩ := List.getElem_of_mem hq
      exact (hxs i _ (List.getElem?_eq_getElem hi)).2
    · have := hw ((len + (m - len)) * P.bytesOf e) (by simp [DataW.weights, ht])
      simp only [reachBytes] at this
      rw [hxl]
      have h2 : len * P.bytesOf e ≤ (len + (m - len)) * P.bytesOf e := Nat.mul_le_mul_right _ (by omega)
      omega
/-- Fields, from a place on. -/
def FO (enc : TypeId × Value → H) (P : Program) (W : World) (off : Nat) (fs : List Field) {α : Type} (f : α → List Value) (Q : α → Prop) : Prop :=
  ∀ n (cs : List Value) (xs : List (DataW H × List MemPlace)), cs.length = off + (fs.map fun g => P.cellsOf g.type).sum → xs.length = fs.length →
    (∀ (i : Nat) (g : Field), fs[i]? = some g → DataW.trod enc P W 0 (fun _ => true) true n g.type ((cs.drop g.offset).take (P.cellsOf g.type)) = xs[i]?) →
    (∀ k ∈ DataW.weightsEach P (fs.map (·.type)) (xs.map (·.1)), k ≤ reachBytes) → ∃ a, cs.drop off = f a ∧ Q a
theorem FO.nil {off : Nat} : FO enc P W off [] (fun _ : Unit => []) (fun _ => True) := fun n cs xs hl _ _ _ => ⟨(), by simp at hl; simp [hl], trivial⟩
theorem FO.cons {off off' : Nat} {g : Field} {fs : List Field} {α β : Type} {f1 : α → List Value} {Q1 : α → Prop} {f2 : β → List Value} {Q2 : β → Prop} (h1 : Opens enc P W g.type f1 Q1) (ho : g.offset = off) (hoff : off + P.cellsOf g.type = off') (h2 : FO enc P W off' fs f2 Q2) :
    FO enc P W off (g :: fs) (fun p : α × β => f1 p.1 ++ f2 p.2) (fun p => Q1 p.1 ∧ Q2 p.2) := by
  intro n cs xs hl hxl hx hw
  cases xs with
  | nil => simp at hxl
  | cons x xs =>
    subst hoff
    simp only [List.map_cons, DataW.weightsEach, List.mem_append] at hw
    obtain ⟨a, ha, qa⟩ := h1 n _ x (hx 0 g rfl) (fun k hk => hw k (.inl hk))
    obtain ⟨b, hb, qb⟩ := h2 n cs xs (by simp at hl; omega) (by simpa using hxl) (fun i g' hg => by simpa using hx (i + 1) g' (by simpa using hg)) (fun k hk => hw k (.inr hk))
    refine ⟨(a, b), ?_, qa, qb⟩
    simp only []
    rw [← ha, ← hb, ho, ← List.drop_drop, List.take_append_drop]
theorem Opens.struct {t : TypeId} {fs : Array Field} {α : Type} {f : α → List Value} {Q : α → Prop} (hu : P.underlying t = some (.struct fs)) (hc : P.cellsOf t = (fs.toList.map fun g => P.cellsOf g.type).sum) (h : FO enc P W 0 fs.toList f Q) : Opens enc P W t f Q := by
  intro n cs x hx hw
  obtain ⟨xs, n', _, rfl, hl, hxl, hel⟩ := DataW.trod_struct hu hx
  obtain ⟨a, h1, h2⟩ := h n' cs xs (by rw [hl, hc]; omega) (by simpa using hxl) (fun i g hg => hel i g (by simpa using hg)) (fun k hk => hw k (by simpa [DataW.weights, hu] using hk))
  exact ⟨a, by simpa using h1, h2⟩
/-- An argument, opened. -/
theorem Opens.arg {t : TypeId} {α : Type} {f : α → List Value} {Q : α → Prop} (h : Opens enc P W t f Q) {ts : List TypeId} {ds : List (DataW H)} {j : Nat} {v : Value} {d : DataW H} {ps : List MemPlace} (hd : DataW.Trod enc P W 0 (fun _ => true) true t v d ps)
    (hw : (DataW.weightsEach P ts ds).all (· ≤ reachBytes) = true) (ht : ts[j]? = some t) (hj : ds[j]? = some d) : ∃ a, v.cells.toList = f a ∧ Q a := by
  obtain ⟨n, hn⟩ := hd
  exact h n _ _ hn fun k hk => by
    have := List.all_eq_true.1 hw k (DataW.weights_mem_each ht hj k hk)
    simpa using this
theorem arg_str {t : TypeId} (ht : P.underlying t = some .string) {ts : List TypeId} {ds : List (DataW H)} {j base : Nat} {v : Value} {d : DataW H} {ps : List MemPlace} (hval : Value.okWide P W .any base t v) (hd : DataW.Trod enc P W 0 (fun _ => true) true t v d ps)
    (hw : (DataW.weightsEach P ts ds).all (· ≤ reachBytes) = true) (htj : ts[j]? = some t) (hj : ds[j]? = some d) : ∃ l : List UInt8, v = str l ∧ l.length ≤ 140737488351232 := by
  obtain ⟨s, rfl⟩ := okWide_string ht hval
  obtain ⟨l, h1, h2⟩ := (Opens.str (enc := enc) (W := W) ht).arg hd hw htj hj
  exact ⟨l, by simpa [Value.cells] using h1, h2⟩
theorem arg_slice {t e : TypeId} {sz : Nat} {α : Type} {f : α → List Value} {Q : α → Prop} (ht : P.underlying t = some (.slice e)) (hsz : P.cellsOf e = sz) (hpos : 0 < sz) (hf : ∀ a, (f a).length = sz) (h : Opens enc P W e f Q)
    {ts : List TypeId} {ds : List (DataW H)} {j base : Nat} {v : Value} {d : DataW H} {ps : List MemPlace} (hval : Value.okWide P W .any base t v) (hd : DataW.Trod enc P W 0 (fun _ => true) true t v d ps)
    (hw : (DataW.weightsEach P ts ds).all (· ≤ reachBytes) = true) (htj : ts[j]? = some t) (hj : ds[j]? = some d) :
    ∃ xs : List α, Sees W (fun _ => False) (.row sz v xs.length (xs.flatMap f)) ∧ (∀ x ∈ xs, Q x) ∧ xs.length * P.bytesOf e ≤ 140737488351232 := by
  obtain ⟨a0, len, cap, rfl⟩ := okWide_slice ht hval
  obtain ⟨⟨u, xs⟩, h1, h2, h3, h4⟩ := (Opens.slice ht hsz hpos hf h).arg hd hw htj hj
  have : u = .slice a0 len cap := by simpa [Value.cells] using h1.symm
  subst this
  exact ⟨xs, h2, h3, h4⟩
end
end Go.BK
namespace Go.BK
open Go.RowKit
section
variable {P : Program} {w0 : World} {S0 : BSet} {n : Nat} {F : Fr} {A : List HP} {ops : Array Oper} {Q : Exit → Act → World → Prop} {rest : List Oper} {o : Oper} {c : Code} {e : Exit}
variable {dd : Option Tmp} {T t ty : TypeId} {pos : String} {af : Array Edge} {g : Option (Nat × Bool)} {x y : Operand}
/-- Alike texts. -/
theorem EvW.seqS {l : List UInt8} (hx : ev F x = some (str l)) (hy : ev F y = some (str l)) : EvW P w0 S0 n F A ⟨dd, .binOp .eql t x y ty, T, pos, af, g⟩ (.bool true) := by
  have := EvW.seq (P := P) (w0 := w0) (S0 := S0) (n := n) (A := A) (d := dd) (T := T) (pos := pos) (af := af) (g := g) (t := t) (ty := ty) hx hy
  simpa using this
/-- Slots of a frame, as they are. -/
inductive Pick (F : Fr) : List Nat → Fr → Prop
  | nil : Pick F [] []
  | cons {k : Nat} {v : Value} {ks : List Nat} {r : Fr} : F.get k = some v → Pick F ks r → Pick F (k :: ks) ((k, v) :: r)
theorem WC.loopK {σ : Type} (ks : List Nat) {K : Fr} (V : σ → Fr) (Ai : σ → List HP) (I : σ → Prop) (μ : σ → Nat) (s0 : σ) (_hK : Pick F ks K) (hF : Sub (V s0 ++ K) F) (hA : ∀ w, St w0 S0 A w → St w0 S0 (Ai s0) w) (hI : I s0)
    (round : ∀ s, I s → WC P w0 S0 n c (Exit.then (fun a' w' => ∃ s', I s' ∧ Agr n (V s' ++ K) a' ∧ St w0 S0 (Ai s') w' ∧ μ s' < μ s) Q) (V s ++ K) (Ai s)) : WC P w0 S0 n (.loop c) Q F A :=
  WC.loop (fun s => V s ++ K) Ai I μ s0 hF hA hI round
end
end Go.BK
namespace Go.BK
def crcP : BitVec 32 := 79764919#32
def crcT (x : BitVec 32) : BitVec 32 := (x <<< 1) ^^^ (crcP &&& -(x >>> 31))
def crcN : Nat → BitVec 32 → BitVec 32
  | 0, x => x
  | n + 1, x => crcN n (crcT x)
theorem crcN_add (m n : Nat) (x : BitVec 32) : crcN (m + n) x = crcN n (crcN m x) := by
  induction m generalizing x with
  | zero => rw [Nat.zero_add]; rfl
  | succ m ih => rw [Nat.succ_add]; exact ih _
/-- A byte at the register's top. -/
def crcU (c : UInt8) : BitVec 32 := BitVec.ofNat 32 c.toNat
def crcB (x : BitVec 32) (c : UInt8) : BitVec 32 := crcN 8 (x ^^^ crcU c <<< 24)
def crcL (x : BitVec 32) (l : List UInt8) : BitVec 32 := l.foldl crcB x
def crc (l : List UInt8) : BitVec 32 := crcL 4294967295#32 l
theorem crcU_nat (c : UInt8) : (crcU c).toNat = c.toNat := by
  have := c.toNat_lt
  rw [crcU, BitVec.toNat_ofNat]; omega
theorem crcL_append (x : BitVec 32) (a b : List UInt8) : crcL x (a ++ b) = crcL (crcL x a) b := by simp [crcL, List.foldl_append]
end Go.BK
namespace Go.Proofs.Ytknclcjmfgdphaa
open Go.RowKit Go.BK
abbrev u32v (x : BitVec 32) : Value := .int .u32 (x.toNat : Int)
theorem crcN_succ (n : Nat) (x : BitVec 32) : crcN (n + 1) x = crcT (crcN n x) := by rw [crcN_add]; rfl
theorem flat_take (ps : List (List UInt8)) (k : Nat) (h : k < ps.length) : (ps.take (k + 1)).flatten = (ps.take k).flatten ++ ps.getD k [] := by
  have e : ps.getD k [] = ps[k] := by simp [List.getD_eq_getElem?_getD, List.getElem?_eq_getElem h]
  rw [e, List.take_add_one, List.getElem?_eq_getElem h, List.flatten_append]
  simp only [Option.toList_some, List.flatten_cons, List.flatten_nil, List.append_nil]
theorem crc_append (a b : List UInt8) : crcL (crc a) b = crc (a ++ b) := (crcL_append _ _ _).symm
theorem crcL_snoc (x : BitVec 32) (l : List UInt8) (c : UInt8) : crcL x (l ++ [c]) = crcN 8 (crcL x l ^^^ crcU c <<< 24) := by rw [crcL_append]; rfl
theorem take_snoc (l : List UInt8) (i : Nat) (h : i < l.length) : l.take (i + 1) = l.take i ++ [l.getD i 0] := by
  rw [List.take_add_one, List.getElem?_eq_getElem h]
  simp [List.getD_eq_getElem?_getD, List.getElem?_eq_getElem h]
theorem wr32 (x : BitVec 32) : IntKind.u32.wrap (x.toNat : Int) = (x.toNat : Int) := by
  have := x.isLt
  exact wrap_in IntKind.u32 (by simp only [IntKind.min, IntKind.max, IntKind.signed, IntKind.bits, Bool.false_eq_true, ↓reduceIte]; omega)
theorem of32 (x : BitVec 32) : BitVec.ofInt IntKind.u32.bits (x.toNat : Int) = x := by
  show BitVec.ofInt 32 (x.toNat : Int) = x
  rw [BitVec.ofInt_natCast, BitVec.ofNat_toNat, BitVec.setWidth_eq]
theorem wrN (n : Nat) : IntKind.u32.wrap (n : Int) = ((n % 2 ^ 32 : Nat) : Int) := by
  show (n : Int) % 2 ^ 32 = _
  rw [Int.natCast_emod]; rfl
theorem shl32 (x : BitVec 32) (k : Nat) : IntKind.u32.wrap ((x.toNat : Int) * 2 ^ k) = ((x <<< k).toNat : Int) := by
  have h := wrN (x.toNat * 2 ^ k)
  rw [Int.natCast_mul, Int.natCast_pow] at h
  rw [BitVec.toNat_shiftLeft, Nat.shiftLeft_eq]
  exact h
theorem shr32 (x : BitVec 32) (k : Nat) : ((x.toNat : Int)).fdiv (2 ^ k) = ((x >>> k).toNat : Int) := by
  rw [fdiv_two, BitVec.toNat_ushiftRight, Nat.shiftRight_eq_div_pow, Int.natCast_ediv, Int.natCast_pow]
  rfl
theorem neg32 (x : BitVec 32) : IntKind.u32.wrap (0 - (x.toNat : Int)) = ((-x).toNat : Int) := by
  have := x.isLt
  rw [BitVec.toNat_neg]
  show (0 - (x.toNat : Int)) % 2 ^ 32 = _
  omega
theorem cu32 (c : UInt8) : IntKind.u32.wrap (c.toNat : Int) = ((crcU c).toNat : Int) := by
  rw [crcU_nat, wrN, Nat.mod_eq_of_lt (by have := c.toNat_lt; omega)]
theorem sum_in (x : BitVec 32) (c : UInt8) : IntKind.u32.wrap ↑(BitVec.ofInt IntKind.u32.bits ↑x.toNat ^^^ BitVec.ofInt IntKind.u32.bits (IntKind.u32.wrap (IntKind.u32.wrap ↑c.toNat * 2 ^ min (Int.toNat 24) IntKind.u32.bits))).toNat = ((x ^^^ crcU c <<< 24).toNat : Int) := by
  rw [show min (Int.toNat 24) IntKind.u32.bits = 24 from rfl, cu32, shl32, of32, of32]
  exact wr32 _
theorem sum_step (x : BitVec 32) : IntKind.u32.wrap ↑(BitVec.ofInt IntKind.u32.bits (IntKind.u32.wrap (↑x.toNat * 2 ^ min (Int.toNat 1) IntKind.u32.bits)) ^^^
    BitVec.ofInt IntKind.u32.bits (IntKind.u32.wrap ↑(BitVec.ofInt IntKind.u32.bits 79764919 &&& BitVec.ofInt IntKind.u32.bits (IntKind.u32.wrap (0 - (x.toNat : Int).fdiv (2 ^ min (Int.toNat 31) IntKind.u32.bits)))).toNat)).toNat = ((crcT x).toNat : Int) := by
  rw [show min (Int.toNat 1) IntKind.u32.bits = 1 from rfl, show min (Int.toNat 31) IntKind.u32.bits = 31 from rfl, show (79764919 : Int) = (crcP.toNat : Int) from rfl, shr32, neg32, shl32]
  show IntKind.u32.wrap ↑(BitVec.ofInt 32 ((x <<< 1).toNat : Int) ^^^ BitVec.ofInt 32 (IntKind.u32.wrap ↑(BitVec.ofInt 32 (crcP.toNat : Int) &&& BitVec.ofInt 32 ((-(x >>> 31)).toNat : Int)).toNat)).toNat = _
  have o : ∀ y : BitVec 32, BitVec.ofInt 32 (y.toNat : Int) = y := of32
  rw [o, o, o, wr32 (crcP &&& -(x >>> 31)), o, wr32]
  rfl
theorem sum_spec (v : Value) (ps : List (List UInt8)) (w : World) (S : BSet) (hS : (sepL []).sat S w) (hx : Sees w S (.row 1 v ps.length (ps.map str))) (hpl : ps.length ≤ 140737488355328) (hql : ∀ p ∈ ps, p.length ≤ 140737488355328) :
    Tri Try.prog 66 #[v] w S fun u A => u = i64 ((crc ps.flatten).toNat : Int) ∧ A = [] := by
  refine Tri.enter (l := [v]) Try.func66 rfl Try.ntmps66 rfl [(0, v)] (subA rfl) hS ?_
  repeat first
    | (apply WL.q; exact rfl; exact rfl; exact rfl; (first | (apply EvW.move; exact rfl) | (apply EvW.assign; exact rfl) | (apply EvW.load; exact rfl; exact ScalC.eq; (focus ((repeat constructor); done)); exact rfl) | (apply EvW.lenS; exact rfl; exact UndC.eq) | (apply EvW.lenL; exact rfl; exact UndC.eq) | (apply EvW.cmpT; exact rfl; exact rfl; exact rfl; omega) | (apply EvW.cmpF; exact rfl; exact rfl; exact rfl; omega) | (apply EvW.cmp; exact rfl; exact rfl; exact rfl) | (apply EvW.arN; exact rfl; exact rfl; exact rfl; (first | (refine i64_in ?_ ?_ <;> omega) | (constructor <;> simp only [IntKind.min, IntKind.max, IntKind.signed, IntKind.bits, ↓reduceIte, Bool.false_eq_true] <;> omega))) | (apply EvW.ar; exact rfl; exact rfl; exact rfl) | (apply EvW.convN; exact rfl; exact UndC.eq; exact UndC.eq; (first | (refine i64_in ?_ ?_ <;> omega) | (constructor <;> simp only [IntKind.min, IntKind.max, IntKind.signed, IntKind.bits, ↓reduceIte, Bool.false_eq_true] <;> omega))) | (apply EvW.convW; exact rfl; exact UndC.eq; exact UndC.eq; exact of_decide_eq_true rfl) | (apply EvW.conv; exact rfl; exact UndC.eq; exact UndC.eq) | (apply EvW.negN; exact rfl; (first | (refine i64_in ?_ ?_ <;> omega) | (constructor <;> simp only [IntKind.min, IntKind.max, IntKind.signed, IntKind.bits, ↓reduceIte, Bool.false_eq_true] <;> omega))) | (apply EvW.neg; exact rfl) | (apply EvW.index; exact rfl; exact rfl; exact UndC.eq; omega; omega) | (apply EvW.shr; exact rfl; exact rfl; omega) | (apply EvW.shl; exact rfl; exact rfl; omega) | (apply EvW.ldStr; exact rfl; exact ScalC.eq; assumption; omega) | (apply EvW.ldStrOwn; exact rfl; exact ScalC.eq; (focus ((repeat constructor); done)); omega) | (apply EvW.lenRow; exact rfl; exact UndC.eq; assumption) | (apply EvW.lenOwn; exact rfl; exact UndC.eq; (focus ((repeat constructor); done))) | (apply EvW.idxRow; exact rfl; exact rfl; exact UndC.eq; exact SzC.eq; assumption; omega; omega) | (apply EvW.idxOwn; exact rfl; exact rfl; exact UndC.eq; exact SzC.eq; (focus ((repeat constructor); done)); omega; omega)))
    | refine WC.seq ?_ | refine WC.region ?_ | refine WL.nil ?_ | refine WE.next ?_ | refine WC.block ?_ | refine WC.skip ?_ | refine WC.exit ?_ | refine WE.pass ?_ | refine WE.hit ?_ | refine WE.miss rfl ?_ | refine WE.out ?_ | refine WC.condT rfl ?_ | refine WC.condF rfl ?_ | refine WC.ret ?_ | refine WE.passRet ?_ | refine WE.outRet ?_ | refine WL.wanted rfl rfl rfl ?_
  refine WC.loopK (σ := Nat) [7, 8] (fun s => [(9, i64 s), (3, u32v (crc (ps.take s).flatten))]) (fun s => []) (fun s => s ≤ ps.length) (fun s => ps.length - s) 0 (by (focus ((repeat (first | exact Pick.nil | (apply Pick.cons; exact rfl))); done))) (by (focus ((repeat (first | exact trivial | (refine ⟨rfl, ?_⟩))); done))) (fun _ h => h.keep (by repeat constructor)) (Nat.zero_le _) (fun s hs => ?_)
  obtain ⟨k, rfl⟩ : ∃ q, q = s := ⟨s, rfl⟩
  simp only [List.cons_append, List.nil_append] at hs ⊢
  by_cases hlt : (k : Int) < ps.length
  · have hfl := flat_take ps k (by omega)
    have hmem : ps.getD k [] ∈ ps := by rw [List.getD_eq_getElem?_getD, List.getElem?_eq_getElem (by omega)]; exact List.getElem_mem _
    have hpl2 := hql _ hmem
    obtain ⟨p, hp⟩ : ∃ p, ps.getD ((k : Nat) : Int).toNat [] = p := ⟨_, rfl⟩
    rw [show ps.getD k [] = p from hp] at hfl hpl2
    obtain ⟨r0, hr0⟩ : ∃ r0, crc (ps.take k).flatten = r0 := ⟨_, rfl⟩
    rw [hr0]
    repeat first
      | (apply WL.q; exact rfl; exact rfl; exact rfl; (first | (apply EvW.move; exact rfl) | (apply EvW.assign; exact rfl) | (apply EvW.load; exact rfl; exact ScalC.eq; (focus ((repeat constructor); done)); exact rfl) | (apply EvW.lenS; exact rfl; exact UndC.eq) | (apply EvW.lenL; exact rfl; exact UndC.eq) | (apply EvW.cmpT; exact rfl; exact rfl; exact rfl; omega) | (apply EvW.cmpF; exact rfl; exact rfl; exact rfl; omega) | (apply EvW.cmp; exact rfl; exact rfl; exact rfl) | (apply EvW.arN; exact rfl; exact rfl; exact rfl; (first | (refine i64_in ?_ ?_ <;> omega) | (constructor <;> simp only [IntKind.min, IntKind.max, IntKind.signed, IntKind.bits, ↓reduceIte, Bool.false_eq_true] <;> omega))) | (apply EvW.ar; exact rfl; exact rfl; exact rfl) | (apply EvW.convN; exact rfl; exact UndC.eq; exact UndC.eq; (first | (refine i64_in ?_ ?_ <;> omega) | (constructor <;> simp only [IntKind.min, IntKind.max, IntKind.signed, IntKind.bits, ↓reduceIte, Bool.false_eq_true] <;> omega))) | (apply EvW.convW; exact rfl; exact UndC.eq; exact UndC.eq; exact of_decide_eq_true rfl) | (apply EvW.conv; exact rfl; exact UndC.eq; exact UndC.eq) | (apply EvW.negN; exact rfl; (first | (refine i64_in ?_ ?_ <;> omega) | (constructor <;> simp only [IntKind.min, IntKind.max, IntKind.signed, IntKind.bits, ↓reduceIte, Bool.false_eq_true] <;> omega))) | (apply EvW.neg; exact rfl) | (apply EvW.index; exact rfl; exact rfl; exact UndC.eq; omega; omega) | (apply EvW.shr; exact rfl; exact rfl; omega) | (apply EvW.shl; exact rfl; exact rfl; omega) | (apply EvW.ldStr; exact rfl; exact ScalC.eq; assumption; omega) | (apply EvW.ldStrOwn; exact rfl; exact ScalC.eq; (focus ((repeat constructor); done)); omega) | (apply EvW.lenRow; exact rfl; exact UndC.eq; assumption) | (apply EvW.lenOwn; exact rfl; exact UndC.eq; (focus ((repeat constructor); done))) | (apply EvW.idxRow; exact rfl; exact rfl; exact UndC.eq; exact SzC.eq; assumption; omega; omega) | (apply EvW.idxOwn; exact rfl; exact rfl; exact UndC.eq; exact SzC.eq; (focus ((repeat constructor); done)); omega; omega)))
      | refine WC.seq ?_ | refine WC.region ?_ | refine WL.nil ?_ | refine WE.next ?_ | refine WC.block ?_ | refine WC.skip ?_ | refine WC.exit ?_ | refine WE.pass ?_ | refine WE.hit ?_ | refine WE.miss rfl ?_ | refine WE.out ?_ | refine WC.condT rfl ?_ | refine WC.condF rfl ?_ | refine WC.ret ?_ | refine WE.passRet ?_ | refine WE.outRet ?_ | refine WL.wanted rfl rfl rfl ?_
    rw [hp]
    repeat first
      | (apply WL.q; exact rfl; exact rfl; exact rfl; (first | (apply EvW.move; exact rfl) | (apply EvW.assign; exact rfl) | (apply EvW.load; exact rfl; exact ScalC.eq; (focus ((repeat constructor); done)); exact rfl) | (apply EvW.lenS; exact rfl; exact UndC.eq) | (apply EvW.lenL; exact rfl; exact UndC.eq) | (apply EvW.cmpT; exact rfl; exact rfl; exact rfl; omega) | (apply EvW.cmpF; exact rfl; exact rfl; exact rfl; omega) | (apply EvW.cmp; exact rfl; exact rfl; exact rfl) | (apply EvW.arN; exact rfl; exact rfl; exact rfl; (first | (refine i64_in ?_ ?_ <;> omega) | (constructor <;> simp only [IntKind.min, IntKind.max, IntKind.signed, IntKind.bits, ↓reduceIte, Bool.false_eq_true] <;> omega))) | (apply EvW.ar; exact rfl; exact rfl; exact rfl) | (apply EvW.convN; exact rfl; exact UndC.eq; exact UndC.eq; (first | (refine i64_in ?_ ?_ <;> omega) | (constructor <;> simp only [IntKind.min, IntKind.max, IntKind.signed, IntKind.bits, ↓reduceIte, Bool.false_eq_true] <;> omega))) | (apply EvW.convW; exact rfl; exact UndC.eq; exact UndC.eq; exact of_decide_eq_true rfl) | (apply EvW.conv; exact rfl; exact UndC.eq; exact UndC.eq) | (apply EvW.negN; exact rfl; (first | (refine i64_in ?_ ?_ <;> omega) | (constructor <;> simp only [IntKind.min, IntKind.max, IntKind.signed, IntKind.bits, ↓reduceIte, Bool.false_eq_true] <;> omega))) | (apply EvW.neg; exact rfl) | (apply EvW.index; exact rfl; exact rfl; exact UndC.eq; omega; omega) | (apply EvW.shr; exact rfl; exact rfl; omega) | (apply EvW.shl; exact rfl; exact rfl; omega) | (apply EvW.ldStr; exact rfl; exact ScalC.eq; assumption; omega) | (apply EvW.ldStrOwn; exact rfl; exact ScalC.eq; (focus ((repeat constructor); done)); omega) | (apply EvW.lenRow; exact rfl; exact UndC.eq; assumption) | (apply EvW.lenOwn; exact rfl; exact UndC.eq; (focus ((repeat constructor); done))) | (apply EvW.idxRow; exact rfl; exact rfl; exact UndC.eq; exact SzC.eq; assumption; omega; omega) | (apply EvW.idxOwn; exact rfl; exact rfl; exact UndC.eq; exact SzC.eq; (focus ((repeat constructor); done)); omega; omega)))
      | refine WC.seq ?_ | refine WC.region ?_ | refine WL.nil ?_ | refine WE.next ?_ | refine WC.block ?_ | refine WC.skip ?_ | refine WC.exit ?_ | refine WE.pass ?_ | refine WE.hit ?_ | refine WE.miss rfl ?_ | refine WE.out ?_ | refine WC.condT rfl ?_ | refine WC.condF rfl ?_ | refine WC.ret ?_ | refine WE.passRet ?_ | refine WE.outRet ?_ | refine WL.wanted rfl rfl rfl ?_
    refine WC.loopK (σ := Nat) [5, 7, 8, 9, 14] (fun s => [(15, i64 s), (3, u32v (crcL r0 (p.take s)))]) (fun s => []) (fun s => s ≤ p.length) (fun s => p.length - s) 0 (by (focus ((repeat (first | exact Pick.nil | (apply Pick.cons; exact rfl))); done))) (by (focus ((repeat (first | exact trivial | (refine ⟨rfl, ?_⟩))); done))) (fun _ h => h.keep (by repeat constructor)) (Nat.zero_le _) (fun s hs => ?_)
    obtain ⟨i, rfl⟩ : ∃ q, q = s := ⟨s, rfl⟩
    simp only [List.cons_append, List.nil_append] at hs ⊢
    by_cases hlt2 : (i : Int) < p.length
    · have hsn := take_snoc p i (by omega)
      repeat first
        | (apply WL.q; exact rfl; exact rfl; exact rfl; (first | (apply EvW.move; exact rfl) | (apply EvW.assign; exact rfl) | (apply EvW.load; exact rfl; exact ScalC.eq; (focus ((repeat constructor); done)); exact rfl) | (apply EvW.lenS; exact rfl; exact UndC.eq) | (apply EvW.lenL; exact rfl; exact UndC.eq) | (apply EvW.cmpT; exact rfl; exact rfl; exact rfl; omega) | (apply EvW.cmpF; exact rfl; exact rfl; exact rfl; omega) | (apply EvW.cmp; exact rfl; exact rfl; exact rfl) | (apply EvW.arN; exact rfl; exact rfl; exact rfl; (first | (refine i64_in ?_ ?_ <;> omega) | (constructor <;> simp only [IntKind.min, IntKind.max, IntKind.signed, IntKind.bits, ↓reduceIte, Bool.false_eq_true] <;> omega))) | (apply EvW.ar; exact rfl; exact rfl; exact rfl) | (apply EvW.convN; exact rfl; exact UndC.eq; exact UndC.eq; (first | (refine i64_in ?_ ?_ <;> omega) | (constructor <;> simp only [IntKind.min, IntKind.max, IntKind.signed, IntKind.bits, ↓reduceIte, Bool.false_eq_true] <;> omega))) | (apply EvW.convW; exact rfl; exact UndC.eq; exact UndC.eq; exact of_decide_eq_true rfl) | (apply EvW.conv; exact rfl; exact UndC.eq; exact UndC.eq) | (apply EvW.negN; exact rfl; (first | (refine i64_in ?_ ?_ <;> omega) | (constructor <;> simp only [IntKind.min, IntKind.max, IntKind.signed, IntKind.bits, ↓reduceIte, Bool.false_eq_true] <;> omega))) | (apply EvW.neg; exact rfl) | (apply EvW.index; exact rfl; exact rfl; exact UndC.eq; omega; omega) | (apply EvW.shr; exact rfl; exact rfl; omega) | (apply EvW.shl; exact rfl; exact rfl; omega) | (apply EvW.ldStr; exact rfl; exact ScalC.eq; assumption; omega) | (apply EvW.ldStrOwn; exact rfl; exact ScalC.eq; (focus ((repeat constructor); done)); omega) | (apply EvW.lenRow; exact rfl; exact UndC.eq; assumption) | (apply EvW.lenOwn; exact rfl; exact UndC.eq; (focus ((repeat constructor); done))) | (apply EvW.idxRow; exact rfl; exact rfl; exact UndC.eq; exact SzC.eq; assumption; omega; omega) | (apply EvW.idxOwn; exact rfl; exact rfl; exact UndC.eq; exact SzC.eq; (focus ((repeat constructor); done)); omega; omega)))
        | refine WC.seq ?_ | refine WC.region ?_ | refine WL.nil ?_ | refine WE.next ?_ | refine WC.block ?_ | refine WC.skip ?_ | refine WC.exit ?_ | refine WE.pass ?_ | refine WE.hit ?_ | refine WE.miss rfl ?_ | refine WE.out ?_ | refine WC.condT rfl ?_ | refine WC.condF rfl ?_ | refine WC.ret ?_ | refine WE.passRet ?_ | refine WE.outRet ?_ | refine WL.wanted rfl rfl rfl ?_
      rw [sum_in]
      refine WC.loopK (σ := Nat) [5, 7, 8, 9, 14, 15] (fun s => [(25, i64 s), (3, u32v (crcN s (crcL r0 (p.take i) ^^^ crcU (p.getD i 0) <<< 24)))]) (fun s => []) (fun s => s ≤ 8) (fun s => 8 - s) 0 (by (focus ((repeat (first | exact Pick.nil | (apply Pick.cons; exact rfl))); done))) (by (focus ((repeat (first | exact trivial | (refine ⟨rfl, ?_⟩))); done))) (fun _ h => h.keep (by repeat constructor)) (Nat.zero_le _) (fun s hs => ?_)
      obtain ⟨j, rfl⟩ : ∃ q, q = s := ⟨s, rfl⟩
      simp only [List.cons_append, List.nil_append] at hs ⊢
      by_cases hlt3 : (j : Int) < 8
      · repeat first
          | (apply WL.q; exact rfl; exact rfl; exact rfl; (first | (apply EvW.move; exact rfl) | (apply EvW.assign; exact rfl) | (apply EvW.load; exact rfl; exact ScalC.eq; (focus ((repeat constructor); done)); exact rfl) | (apply EvW.lenS; exact rfl; exact UndC.eq) | (apply EvW.lenL; exact rfl; exact UndC.eq) | (apply EvW.cmpT; exact rfl; exact rfl; exact rfl; omega) | (apply EvW.cmpF; exact rfl; exact rfl; exact rfl; omega) | (apply EvW.cmp; exact rfl; exact rfl; exact rfl) | (apply EvW.arN; exact rfl; exact rfl; exact rfl; (first | (refine i64_in ?_ ?_ <;> omega) | (constructor <;> simp only [IntKind.min, IntKind.max, IntKind.signed, IntKind.bits, ↓reduceIte, Bool.false_eq_true] <;> omega))) | (apply EvW.ar; exact rfl; exact rfl; exact rfl) | (apply EvW.convN; exact rfl; exact UndC.eq; exact UndC.eq; (first | (refine i64_in ?_ ?_ <;> omega) | (constructor <;> simp only [IntKind.min, IntKind.max, IntKind.signed, IntKind.bits, ↓reduceIte, Bool.false_eq_true] <;> omega))) | (apply EvW.convW; exact rfl; exact UndC.eq; exact UndC.eq; exact of_decide_eq_true rfl) | (apply EvW.conv; exact rfl; exact UndC.eq; exact UndC.eq) | (apply EvW.negN; exact rfl; (first | (refine i64_in ?_ ?_ <;> omega) | (constructor <;> simp only [IntKind.min, IntKind.max, IntKind.signed, IntKind.bits, ↓reduceIte, Bool.false_eq_true] <;> omega))) | (apply EvW.neg; exact rfl) | (apply EvW.index; exact rfl; exact rfl; exact UndC.eq; omega; omega) | (apply EvW.shr; exact rfl; exact rfl; omega) | (apply EvW.shl; exact rfl; exact rfl; omega) | (apply EvW.ldStr; exact rfl; exact ScalC.eq; assumption; omega) | (apply EvW.ldStrOwn; exact rfl; exact ScalC.eq; (focus ((repeat constructor); done)); omega) | (apply EvW.lenRow; exact rfl; exact UndC.eq; assumption) | (apply EvW.lenOwn; exact rfl; exact UndC.eq; (focus ((repeat constructor); done))) | (apply EvW.idxRow; exact rfl; exact rfl; exact UndC.eq; exact SzC.eq; assumption; omega; omega) | (apply EvW.idxOwn; exact rfl; exact rfl; exact UndC.eq; exact SzC.eq; (focus ((repeat constructor); done)); omega; omega)))
          | refine WC.seq ?_ | refine WC.region ?_ | refine WL.nil ?_ | refine WE.next ?_ | refine WC.block ?_ | refine WC.skip ?_ | refine WC.exit ?_ | refine WE.pass ?_ | refine WE.hit ?_ | refine WE.miss rfl ?_ | refine WE.out ?_ | refine WC.condT rfl ?_ | refine WC.condF rfl ?_ | refine WC.ret ?_ | refine WE.passRet ?_ | refine WE.outRet ?_ | refine WL.wanted rfl rfl rfl ?_
        rw [sum_step, ← crcN_succ]
        exact WE.again (s := j) (j + 1) (by omega) (by (focus ((repeat (first | exact trivial | (refine ⟨rfl, ?_⟩))); done))) (fun _ h => (by (try simp only []); exact h.keep (by repeat constructor))) (by (try simp only []); omega)
      · obtain rfl : j = 8 := by omega
        rw [← crcL_snoc, ← hsn]
        repeat first
          | (apply WL.q; exact rfl; exact rfl; exact rfl; (first | (apply EvW.move; exact rfl) | (apply EvW.assign; exact rfl) | (apply EvW.load; exact rfl; exact ScalC.eq; (focus ((repeat constructor); done)); exact rfl) | (apply EvW.lenS; exact rfl; exact UndC.eq) | (apply EvW.lenL; exact rfl; exact UndC.eq) | (apply EvW.cmpT; exact rfl; exact rfl; exact rfl; omega) | (apply EvW.cmpF; exact rfl; exact rfl; exact rfl; omega) | (apply EvW.cmp; exact rfl; exact rfl; exact rfl) | (apply EvW.arN; exact rfl; exact rfl; exact rfl; (first | (refine i64_in ?_ ?_ <;> omega) | (constructor <;> simp only [IntKind.min, IntKind.max, IntKind.signed, IntKind.bits, ↓reduceIte, Bool.false_eq_true] <;> omega))) | (apply EvW.ar; exact rfl; exact rfl; exact rfl) | (apply EvW.convN; exact rfl; exact UndC.eq; exact UndC.eq; (first | (refine i64_in ?_ ?_ <;> omega) | (constructor <;> simp only [IntKind.min, IntKind.max, IntKind.signed, IntKind.bits, ↓reduceIte, Bool.false_eq_true] <;> omega))) | (apply EvW.convW; exact rfl; exact UndC.eq; exact UndC.eq; exact of_decide_eq_true rfl) | (apply EvW.conv; exact rfl; exact UndC.eq; exact UndC.eq) | (apply EvW.negN; exact rfl; (first | (refine i64_in ?_ ?_ <;> omega) | (constructor <;> simp only [IntKind.min, IntKind.max, IntKind.signed, IntKind.bits, ↓reduceIte, Bool.false_eq_true] <;> omega))) | (apply EvW.neg; exact rfl) | (apply EvW.index; exact rfl; exact rfl; exact UndC.eq; omega; omega) | (apply EvW.shr; exact rfl; exact rfl; omega) | (apply EvW.shl; exact rfl; exact rfl; omega) | (apply EvW.ldStr; exact rfl; exact ScalC.eq; assumption; omega) | (apply EvW.ldStrOwn; exact rfl; exact ScalC.eq; (focus ((repeat constructor); done)); omega) | (apply EvW.lenRow; exact rfl; exact UndC.eq; assumption) | (apply EvW.lenOwn; exact rfl; exact UndC.eq; (focus ((repeat constructor); done))) | (apply EvW.idxRow; exact rfl; exact rfl; exact UndC.eq; exact SzC.eq; assumption; omega; omega) | (apply EvW.idxOwn; exact rfl; exact rfl; exact UndC.eq; exact SzC.eq; (focus ((repeat constructor); done)); omega; omega)))
          | refine WC.seq ?_ | refine WC.region ?_ | refine WL.nil ?_ | refine WE.next ?_ | refine WC.block ?_ | refine WC.skip ?_ | refine WC.exit ?_ | refine WE.pass ?_ | refine WE.hit ?_ | refine WE.miss rfl ?_ | refine WE.out ?_ | refine WC.condT rfl ?_ | refine WC.condF rfl ?_ | refine WC.ret ?_ | refine WE.passRet ?_ | refine WE.outRet ?_ | refine WL.wanted rfl rfl rfl ?_
        exact WE.again (s := i) (i + 1) (by omega) (by (focus ((repeat (first | exact trivial | (refine ⟨rfl, ?_⟩))); done))) (fun _ h => (by (try simp only []); exact h.keep (by repeat constructor))) (by (try simp only []); omega)
    · obtain rfl : i = p.length := by omega
      rw [List.take_length]
      repeat first
        | (apply WL.q; exact rfl; exact rfl; exact rfl; (first | (apply EvW.move; exact rfl) | (apply EvW.assign; exact rfl) | (apply EvW.load; exact rfl; exact ScalC.eq; (focus ((repeat constructor); done)); exact rfl) | (apply EvW.lenS; exact rfl; exact UndC.eq) | (apply EvW.lenL; exact rfl; exact UndC.eq) | (apply EvW.cmpT; exact rfl; exact rfl; exact rfl; omega) | (apply EvW.cmpF; exact rfl; exact rfl; exact rfl; omega) | (apply EvW.cmp; exact rfl; exact rfl; exact rfl) | (apply EvW.arN; exact rfl; exact rfl; exact rfl; (first | (refine i64_in ?_ ?_ <;> omega) | (constructor <;> simp only [IntKind.min, IntKind.max, IntKind.signed, IntKind.bits, ↓reduceIte, Bool.false_eq_true] <;> omega))) | (apply EvW.ar; exact rfl; exact rfl; exact rfl) | (apply EvW.convN; exact rfl; exact UndC.eq; exact UndC.eq; (first | (refine i64_in ?_ ?_ <;> omega) | (constructor <;> simp only [IntKind.min, IntKind.max, IntKind.signed, IntKind.bits, ↓reduceIte, Bool.false_eq_true] <;> omega))) | (apply EvW.convW; exact rfl; exact UndC.eq; exact UndC.eq; exact of_decide_eq_true rfl) | (apply EvW.conv; exact rfl; exact UndC.eq; exact UndC.eq) | (apply EvW.negN; exact rfl; (first | (refine i64_in ?_ ?_ <;> omega) | (constructor <;> simp only [IntKind.min, IntKind.max, IntKind.signed, IntKind.bits, ↓reduceIte, Bool.false_eq_true] <;> omega))) | (apply EvW.neg; exact rfl) | (apply EvW.index; exact rfl; exact rfl; exact UndC.eq; omega; omega) | (apply EvW.shr; exact rfl; exact rfl; omega) | (apply EvW.shl; exact rfl; exact rfl; omega) | (apply EvW.ldStr; exact rfl; exact ScalC.eq; assumption; omega) | (apply EvW.ldStrOwn; exact rfl; exact ScalC.eq; (focus ((repeat constructor); done)); omega) | (apply EvW.lenRow; exact rfl; exact UndC.eq; assumption) | (apply EvW.lenOwn; exact rfl; exact UndC.eq; (focus ((repeat constructor); done))) | (apply EvW.idxRow; exact rfl; exact rfl; exact UndC.eq; exact SzC.eq; assumption; omega; omega) | (apply EvW.idxOwn; exact rfl; exact rfl; exact UndC.eq; exact SzC.eq; (focus ((repeat constructor); done)); omega; omega)))
        | refine WC.seq ?_ | refine WC.region ?_ | refine WL.nil ?_ | refine WE.next ?_ | refine WC.block ?_ | refine WC.skip ?_ | refine WC.exit ?_ | refine WE.pass ?_ | refine WE.hit ?_ | refine WE.miss rfl ?_ | refine WE.out ?_ | refine WC.condT rfl ?_ | refine WC.condF rfl ?_ | refine WC.ret ?_ | refine WE.passRet ?_ | refine WE.outRet ?_ | refine WL.wanted rfl rfl rfl ?_
      rw [← hr0, crc_append, ← hfl]
      exact WE.again (s := k) (k + 1) (by omega) (by (focus ((repeat (first | exact trivial | (refine ⟨rfl, ?_⟩))); done))) (fun _ h => (by (try simp only []); exact h.keep (by repeat constructor))) (by (try simp only []); omega)
  · obtain rfl : k = ps.length := by omega
    rw [List.take_length]
    repeat first
      | (apply WL.q; exact rfl; exact rfl; exact rfl; (first | (apply EvW.move; exact rfl) | (apply EvW.assign; exact rfl) | (apply EvW.load; exact rfl; exact ScalC.eq; (focus ((repeat constructor); done)); exact rfl) | (apply EvW.lenS; exact rfl; exact UndC.eq) | (apply EvW.lenL; exact rfl; exact UndC.eq) | (apply EvW.cmpT; exact rfl; exact rfl; exact rfl; omega) | (apply EvW.cmpF; exact rfl; exact rfl; exact rfl; omega) | (apply EvW.cmp; exact rfl; exact rfl; exact rfl) | (apply EvW.arN; exact rfl; exact rfl; exact rfl; (first | (refine i64_in ?_ ?_ <;> omega) | (constructor <;> simp only [IntKind.min, IntKind.max, IntKind.signed, IntKind.bits, ↓reduceIte, Bool.false_eq_true] <;> omega))) | (apply EvW.ar; exact rfl; exact rfl; exact rfl) | (apply EvW.convN; exact rfl; exact UndC.eq; exact UndC.eq; (first | (refine i64_in ?_ ?_ <;> omega) | (constructor <;> simp only [IntKind.min, IntKind.max, IntKind.signed, IntKind.bits, ↓reduceIte, Bool.false_eq_true] <;> omega))) | (apply EvW.convW; exact rfl; exact UndC.eq; exact UndC.eq; exact of_decide_eq_true rfl) | (apply EvW.conv; exact rfl; exact UndC.eq; exact UndC.eq) | (apply EvW.negN; exact rfl; (first | (refine i64_in ?_ ?_ <;> omega) | (constructor <;> simp only [IntKind.min, IntKind.max, IntKind.signed, IntKind.bits, ↓reduceIte, Bool.false_eq_true] <;> omega))) | (apply EvW.neg; exact rfl) | (apply EvW.index; exact rfl; exact rfl; exact UndC.eq; omega; omega) | (apply EvW.shr; exact rfl; exact rfl; omega) | (apply EvW.shl; exact rfl; exact rfl; omega) | (apply EvW.ldStr; exact rfl; exact ScalC.eq; assumption; omega) | (apply EvW.ldStrOwn; exact rfl; exact ScalC.eq; (focus ((repeat constructor); done)); omega) | (apply EvW.lenRow; exact rfl; exact UndC.eq; assumption) | (apply EvW.lenOwn; exact rfl; exact UndC.eq; (focus ((repeat constructor); done))) | (apply EvW.idxRow; exact rfl; exact rfl; exact UndC.eq; exact SzC.eq; assumption; omega; omega) | (apply EvW.idxOwn; exact rfl; exact rfl; exact UndC.eq; exact SzC.eq; (focus ((repeat constructor); done)); omega; omega)))
      | refine WC.seq ?_ | refine WC.region ?_ | refine WL.nil ?_ | refine WE.next ?_ | refine WC.block ?_ | refine WC.skip ?_ | refine WC.exit ?_ | refine WE.pass ?_ | refine WE.hit ?_ | refine WE.miss rfl ?_ | refine WE.out ?_ | refine WC.condT rfl ?_ | refine WC.condF rfl ?_ | refine WC.ret ?_ | refine WE.passRet ?_ | refine WE.outRet ?_ | refine WL.wanted rfl rfl rfl ?_
    refine WE.ret1 rfl rfl ?_
    exact ⟨rfl, rfl⟩
end Go.Proofs.Ytknclcjmfgdphaa
namespace Go.Proofs
open Go.Shelf Go.RowKit
def Try.lays156_ren : Go.Shelf.Ren := ⟨fun | 156 => 48 | 165 => 54 | 166 => 55 | 169 => 57 | 240 => 71 | 241 => 72 | 276 => 83 | 277 => 84 | n => n, fun | 31 => 22 | 9 => 9 | 3 => 3 | 4 => 4 | 0 => 0 | 20 => 20 | 72 => 114 | 76 => 118 | 70 => 112 | 37 => 43 | 75 => 117 | 127 => 140 | 164 => 150 | 5 => 5 | 80 => 120 | n => n, fun | n => n⟩
theorem Try.lays156 : Go.Proofs.Lays.n156 Try.prog Try.lays156_ren := {
  mixed := by kernel_rfl
  f156 := Try.func48.trans (congrArg some (by kernel_rfl))
  f165 := Try.func54.trans (congrArg some (by kernel_rfl))
  f166 := Try.func55.trans (congrArg some (by kernel_rfl))
  f169 := Try.func57.trans (congrArg some (by kernel_rfl))
  f240 := Try.func71.trans (congrArg some (by kernel_rfl))
  f241 := Try.func72.trans (congrArg some (by kernel_rfl))
  f276 := Try.func83.trans (congrArg some (by kernel_rfl))
  f277 := Try.func84.trans (congrArg some (by kernel_rfl))
  t0 := Try.underlying0
  a0 := Try.isAgg0
  z0 := Try.sizeOf0
  v0 := Try.zeroValue0
  t3 := Try.underlying3
  a3 := Try.isAgg3
  z3 := Try.sizeOf3
  v3 := Try.zeroValue3
  t4 := Try.underlying4
  a4 := Try.isAgg4
  z4 := Try.sizeOf4
  v4 := Try.zeroValue4
  t9 := Try.underlying9
  a9 := Try.isAgg9
  z9 := Try.sizeOf9
  v9 := Try.zeroValue9
  t20 := Try.underlying20
  a20 := Try.isAgg20
  z20 := Try.sizeOf20
  v20 := Try.zeroValue20
  t31 := Try.underlying22
  a31 := Try.isAgg22
  z31 := Try.sizeOf22
  v31 := Try.zeroValue22
  t37 := Try.underlying43
  a37 := Try.isAgg43
  z37 := Try.sizeOf43
  v37 := Try.zeroValue43
  t70 := Try.underlying112
  a70 := Try.isAgg112
  z70 := Try.sizeOf112
  v70 := Try.zeroValue112
  t72 := Try.underlying114
  a72 := Try.isAgg114
  z72 := Try.sizeOf114
  v72 := Try.zeroValue114
  t75 := Try.underlying117
  a75 := Try.isAgg117
  z75 := Try.sizeOf117
  v75 := Try.zeroValue117
  t76 := Try.underlying118
  a76 := Try.isAgg118
  z76 := Try.sizeOf118
  v76 := Try.zeroValue118
  t127 := Try.underlying140
  a127 := Try.isAgg140
  z127 := Try.sizeOf140
  v127 := Try.zeroValue140
  t164 := Try.underlying150
  a164 := Try.isAgg150
  z164 := Try.sizeOf150
  v164 := Try.zeroValue150 }
theorem Try.Builder_Extra_156 : Builder.Extra Try.prog Try.lays156_ren := {
  sizeBuilder := by kernel_rfl
  liesBuilder := by kernel_rfl
  t5 := Try.underlying5
  a5 := Try.isAgg5
  z5 := Try.sizeOf5
  v5 := Try.zeroValue5
  infoByte := by kernel_rfl
  cellsByte := by kernel_rfl
  sizeByte := by kernel_rfl
  neB5 := by decide }
theorem Try.strings_Join_none (a : Option Addr) (c : Nat) (sep : ByteArray) (w : World) :
    Calls Try.prog 48 #[.slice a 0 c, .string sep] w fun e w' => e = .returned (.string ⟨#[]⟩) ∧ w' = w := Any.strings_Join_none Try.lays156 Try.Builder_Extra_156 a c sep w
theorem Try.strings_Join (bk o c : Nat) (xs : List ByteArray) (sep : ByteArray) (w : World) (hcells : ∀ (j : Nat) x, xs[j]? = some x → w.cell? ⟨bk, o + j, none⟩ = some (.string x)) (hbk : bk < w.heap.size) (hN : xs.length ≤ 140737488355328) (hcap : xs.length ≤ c) (hlen : (Lib.join (xs.map (·.data.toList)) sep.data.toList).length ≤ 140737488355328) :
    Calls Try.prog 48 #[.slice (some ⟨bk, o, none⟩) xs.length c, .string sep] w fun e w' => e = .returned (.string ⟨(Lib.join (xs.map (·.data.toList)) sep.data.toList).toArray⟩) ∧ Below w.heap.size w w' := Any.strings_Join Try.lays156 Try.Builder_Extra_156 bk o c xs sep w hcells hbk hN hcap hlen
def Try.lays105_ren : Go.Shelf.Ren := ⟨fun | 105 => 30 | 212 => 52 | 99 => 53 | 165 => 54 | 166 => 55 | 170 => 56 | 169 => 57 | 263 => 68 | 264 => 69 | 206 => 70 | 240 => 71 | 241 => 72 | 276 => 83 | 277 => 84 | n => n, fun | 9 => 9 | 3 => 3 | 4 => 4 | 20 => 20 | 0 => 0 | 46 => 44 | 109 => 109 | 5 => 5 | 72 => 114 | 76 => 118 | 51 => 134 | 146 => 135 | 53 => 137 | 148 => 138 | 70 => 112 | 37 => 43 | 75 => 117 | 127 => 140 | 164 => 150 | 80 => 120 | n => n, fun | n => n⟩
theorem Try.lays105 : Go.Proofs.Lays.n105 Try.prog Try.lays105_ren := {
  mixed := by kernel_rfl
  f99 := Try.func53.trans (congrArg some (by kernel_rfl))
  f105 := Try.func30.trans (congrArg some (by kernel_rfl))
  f165 := Try.func54.trans (congrArg some (by kernel_rfl))
  f166 := Try.func55.trans (congrArg some (by kernel_rfl))
  f169 := Try.func57.trans (congrArg some (by kernel_rfl))
  f170 := Try.func56.trans (congrArg some (by kernel_rfl))
  f206 := Try.func70.trans (congrArg some (by kernel_rfl))
  f212 := Try.func52.trans (congrArg some (by kernel_rfl))
  f240 := Try.func71.trans (congrArg some (by kernel_rfl))
  f241 := Try.func72.trans (congrArg some (by kernel_rfl))
  f263 := Try.func68.trans (congrArg some (by kernel_rfl))
  f264 := Try.func69.trans (congrArg some (by kernel_rfl))
  f276 := Try.func83.trans (congrArg some (by kernel_rfl))
  f277 := Try.func84.trans (congrArg some (by kernel_rfl))
  t0 := Try.underlying0
  a0 := Try.isAgg0
  z0 := Try.sizeOf0
  v0 := Try.zeroValue0
  t3 := Try.underlying3
  a3 := Try.isAgg3
  z3 := Try.sizeOf3
  v3 := Try.zeroValue3
  t4 := Try.underlying4
  a4 := Try.isAgg4
  z4 := Try.sizeOf4
  v4 := Try.zeroValue4
  t5 := Try.underlying5
  a5 := Try.isAgg5
  z5 := Try.sizeOf5
  v5 := Try.zeroValue5
  t9 := Try.underlying9
  a9 := Try.isAgg9
  z9 := Try.sizeOf9
  v9 := Try.zeroValue9
  t20 := Try.underlying20
  a20 := Try.isAgg20
  z20 := Try.sizeOf20
  v20 := Try.zeroValue20
  t37 := Try.underlying43
  a37 := Try.isAgg43
  z37 := Try.sizeOf43
  v37 := Try.zeroValue43
  t46 := Try.underlying44
  a46 := Try.isAgg44
  z46 := Try.sizeOf44
  v46 := Try.zeroValue44
  t51 := Try.underlying134
  a51 := Try.isAgg134
  z51 := Try.sizeOf134
  v51 := Try.zeroValue134
  t53 := Try.underlying137
  a53 := Try.isAgg137
  z53 := Try.sizeOf137
  v53 := Try.zeroValue137
  t70 := Try.underlying112
  a70 := Try.isAgg112
  z70 := Try.sizeOf112
  v70 := Try.zeroValue112
  t72 := Try.underlying114
  a72 := Try.isAgg114
  z72 := Try.sizeOf114
  v72 := Try.zeroValue114
  t75 := Try.underlying117
  a75 := Try.isAgg117
  z75 := Try.sizeOf117
  v75 := Try.zeroValue117
  t76 := Try.underlying118
  a76 := Try.isAgg118
  z76 := Try.sizeOf118
  v76 := Try.zeroValue118
  t109 := Try.underlying109
  a109 := Try.isAgg109
  z109 := Try.sizeOf109
  v109 := Try.zeroValue109
  t127 := Try.underlying140
  a127 := Try.isAgg140
  z127 := Try.sizeOf140
  v127 := Try.zeroValue140
  t146 := Try.underlying135
  a146 := Try.isAgg135
  z146 := Try.sizeOf135
  v146 := Try.zeroValue135
  t148 := Try.underlying138
  a148 := Try.isAgg138
  z148 := Try.sizeOf138
  v148 := Try.zeroValue138
  t164 := Try.underlying150
  a164 := Try.isAgg150
  z164 := Try.sizeOf150
  v164 := Try.zeroValue150 }
theorem Try.Builder_Extra_105 : Builder.Extra Try.prog Try.lays105_ren := {
  sizeBuilder := by kernel_rfl
  liesBuilder := by kernel_rfl
  t5 := Try.underlying5
  a5 := Try.isAgg5
  z5 := Try.sizeOf5
  v5 := Try.zeroValue5
  infoByte := by kernel_rfl
  cellsByte := by kernel_rfl
  sizeByte := by kernel_rfl
  neB5 := by decide }
theorem Try.strings_Repeat (s : ByteArray) (c : Nat) (w : World) (hc : c ≤ 9223372036854775807) (hlen : s.size * c ≤ 140737488355328) :
    Calls Try.prog 30 #[.string s, .int .i64 c] w fun e w' => e = .returned (.string ⟨(Lib.repeatL s.data.toList c).toArray⟩) ∧ Below w.heap.size w w' := Any.strings_Repeat Try.lays105 Try.Builder_Extra_105 s c w hc hlen
end Go.Proofs
namespace Go.BK
open Go.RowKit
/-- What steps gave that nobody could tell ahead: a block, a value. -/
abbrev Ch := Nat → Nat × Value
def Ch.upd (c : Ch) (i : Nat) (x : Nat × Value) : Ch := fun k => bif Nat.beq k i then x else c k
theorem Ch.upd_self (c : Ch) (i : Nat) (x : Nat × Value) : c.upd i x i = x := by simp [Ch.upd]
def selF (f : Nat → Bool) : Nat → List HP → List HP
  | _, [] => []
  | k, x :: r => bif f k then x :: selF f (k + 1) r else selF f (k + 1) r
theorem selF_congr {f g : Nat → Bool} : ∀ (xs ys : List HP) (k : Nat), xs.length = ys.length → (∀ t, t < xs.length → f (k + t) = g (k + t)) → (∀ t, f (k + t) = true → xs[t]? = ys[t]?) → selF f k xs = selF g k ys := by
  intro xs
  induction xs with
  | nil => intro ys k hl _ _; cases ys with | nil => rfl | cons y s => simp at hl
  | cons x r ih =>
    intro ys k hl hfg he
    cases ys with
    | nil => simp at hl
    | cons y s =>
      have h1 := ih s (k + 1) (by simpa using hl) (fun t ht => by have := hfg (t + 1) (by simp; omega); rwa [show k + (t + 1) = k + 1 + t by omega] at this)
        (fun t ht => by have := he (t + 1) (by rw [show k + (t + 1) = k + 1 + t by omega]; exact ht); simpa using this)
      have h0 := hfg 0 (by simp)
      have h2 := he 0
      rw [Nat.add_zero] at h0 h2
      simp only [selF, ← h0]
      cases hf : f k with
      | true => have := h2 hf; simp at this; subst this; simp only [cond_true]; rw [h1]
      | false => simp only [cond_false]; exact h1
theorem selF_ext {f g : Nat → Bool} (xs : List HP) (k : Nat) (h : ∀ t, f t = g t) : selF f k xs = selF g k xs := selF_congr xs xs k rfl (fun t _ => h _) (fun _ _ => rfl)
theorem selF_split {f g h : Nat → Bool} (hd : ∀ t, f t = (g t || h t)) (hx : ∀ t, g t = true → h t = false) : ∀ (xs : List HP) (k : Nat) {S : BSet} {w : World}, (sepL (selF f k xs)).sat S w → (sepL (selF g k xs ++ selF h k xs)).sat S w := by
  intro xs
  induction xs with
  | nil => intro k S w hs; exact hs
  | cons x r ih =>
    intro k S w hs
    have hk := hd k
    have hkx := hx k
    simp only [selF] at hs ⊢
    cases hg : g k with
    | true =>
      rw [hg, Bool.true_or] at hk
      rw [hk] at hs
      rw [hkx hg]
      exact star_mono hs (fun _ h => h) fun _ h => ih (k + 1) h
    | false =>
      rw [hg, Bool.false_or] at hk
      rw [hk] at hs
      cases hh : h k with
      | true =>
        rw [hh] at hs
        simp only [cond_true, cond_false] at hs ⊢
        have h1 := star_mono hs (fun _ h => h) fun _ h => sepL_unappend (ih (k + 1) h)
        exact sepL_append (star_swap h1)
      | false =>
        rw [hh] at hs
        exact ih (k + 1) hs
theorem selF_join {f g h : Nat → Bool} (hd : ∀ t, f t = (g t || h t)) (hx : ∀ t, g t = true → h t = false) : ∀ (xs : List HP) (k : Nat) {S : BSet} {w : World}, (sepL (selF g k xs ++ selF h k xs)).sat S w → (sepL (selF f k xs)).sat S w := by
  intro xs
  induction xs with
  | nil => intro k S w hs; exact hs
  | cons x r ih =>
    intro k S w hs
    have hk := hd k
    have hkx := hx k
    simp only [selF] at hs ⊢
    cases hg : g k with
    | true =>
      rw [hg, Bool.true_or] at hk
      rw [hg, hkx hg] at hs
      rw [hk]
      exact star_mono hs (fun _ h => h) fun _ h => ih (k + 1) h
    | false =>
      rw [hg, Bool.false_or] at hk
      rw [hk]
      cases hh : h k with
      | true =>
        rw [hg, hh] at hs
        simp only [cond_true, cond_false] at hs ⊢
        have h1 := star_swap (sepL_unappend hs)
        exact star_mono h1 (fun _ h => h) fun _ h => ih (k + 1) (sepL_append h)
      | false =>
        rw [hg, hh] at hs
        exact ih (k + 1) hs
inductive SelT : List Bool → List HP → List HP → List HP → Prop
  | nil {R : List HP} : SelT [] [] R R
  | yes {bs : List Bool} {x : HP} {xs R out : List HP} : SelT bs xs R out → SelT (true :: bs) (x :: xs) R (x :: out)
  | no {bs : List Bool} {x : HP} {xs R out : List HP} : SelT bs xs R out → SelT (false :: bs) (x :: xs) R out
theorem SelT.eq {bs : List Bool} {xs R out : List HP} (h : SelT bs xs R out) : ∀ (f : Nat → Bool) (k : Nat), (∀ t, f (k + t) = bs.getD t false) → out = selF f k xs ++ R := by
  induction h with
  | nil => intro f k _; rfl
  | @yes bs x xs R out _ ih =>
    intro f k hf
    have h0 := hf 0
    rw [Nat.add_zero] at h0
    have := ih f (k + 1) fun t => by rw [show k + 1 + t = k + (t + 1) by omega, hf]; rfl
    rw [this]
    simp only [selF, h0]
    rfl
  | @no bs x xs R out _ ih =>
    intro f k hf
    have h0 := hf 0
    rw [Nat.add_zero] at h0
    have := ih f (k + 1) fun t => by rw [show k + 1 + t = k + (t + 1) by omega, hf]; rfl
    rw [this]
    simp only [selF, h0]
    rfl
theorem SelT.len {bs : List Bool} {xs R out : List HP} (h : SelT bs xs R out) : bs.length = xs.length := by
  induction h with
  | nil => rfl
  | yes _ ih => simp [ih]
  | no _ ih => simp [ih]
theorem SelT.at {bs : List Bool} {xs R out : List HP} (h : SelT bs xs R out) : out = selF (fun t => bs.getD t false) 0 xs ++ R := h.eq _ 0 fun t => by rw [Nat.zero_add]
structure NewW (P : Program) (w0 : World) (S0 : BSet) (n : Nat) (F : Fr) (A : List HP) (out : Nat × Value → List HP) (o : Oper) (val : Nat × Value → Value) : Prop where
  go : ∀ (Q : Exit → Act → World → Prop) (K : Act → World → Prop) (a : Act) (w : World), Agr n F a → St w0 S0 A w → (∀ x w', St w0 S0 (out x) w' → K (a.put o.dst (val x)) w') → o.wp P a w K Q
def preOk (ops : List Oper) (p : Option Nat) (i : Nat) : Bool := match p with
  | none => true
  | some q => ahead ops ops.length q i
def postOk (ops : List Oper) (q : Option Nat) (i : Nat) : Bool := match q with
  | none => true
  | some e => ahead ops ops.length i e
def depOk (ops : List Oper) (p : Option Nat) (i : Nat) : Bool := match p with
  | none => false
  | some q => q == i || ahead ops ops.length i q
def bmOk (ops : List Oper) (pros cons : List (Option Nat)) (i : Nat) (bm : List Bool) : Bool := (List.range bm.length).all fun t => !(bm.getD t false) || (preOk ops (pros.getD t none) i && postOk ops (cons.getD t none) i)
def noTok (pros cons : List (Option Nat)) (i : Nat) : Bool := (pros.all fun p => !(p == some i)) && cons.all fun p => !(p == some i)
def emOk (ops : List Oper) (pros cons : List (Option Nat)) (i : Nat) (cm pm bm : List Bool) : Bool :=
  bmOk ops pros cons i bm && pros.length == bm.length && pros.length == cm.length && pros.length == pm.length && pros.length == cons.length && (List.range pros.length).all fun t => (cm.getD t false == (cons.getD t none == some i)) && (pm.getD t false == (pros.getD t none == some i)) && !(bm.getD t false && cm.getD t false) && !(bm.getD t false && pm.getD t false)
def gOk (ops : List Oper) (pros cons : List (Option Nat)) : Bool := (pros.all fun p => p.all fun x => Nat.blt x ops.length) && (List.range cons.length).all fun t => match cons.getD t none with
  | none => true
  | some q => Nat.blt q ops.length && match pros.getD t none with
    | none => true
    | some p => ahead ops ops.length p q && !(p == q)
def nvAt (nv : List (Nat × (Nat × Value → Value))) (i : Nat) : Option (Nat × Value → Value) := match nv with
  | [] => none
  | (j, f) :: r => bif Nat.beq j i then some f else nvAt r i
section
variable (P : Program) (w0 : World) (S0 : BSet) (n : Nat) (ops : List Oper) (F0 : Fr) (tok : Ch → List HP) (pros cons : List (Option Nat)) (nv : List (Nat × (Nat × Value → Value))) (c : Ch)
inductive Par : Nat → Done → List Oper → Done → Prop
  | nil {i : Nat} {done : Done} : Par i done [] done
  | quiet {i : Nat} {done all : Done} {o : Oper} (v : Value) {rest : List Oper} (bm : List Bool) (hw : wantR done i o.guard = some true) (hm : (bmOk ops pros cons i bm && noTok pros cons i) = true) (hn : nvAt nv i = none)
      (h : ∀ R, ∃ A, SelT bm (tok c) R A ∧ EvW P w0 S0 n (preR F0 done i (aft o)) A o v) (k : Par (i + 1) ((o, v) :: done) rest all) : Par i done (o :: rest) all
  | skip {i : Nat} {done all : Done} {o : Oper} {rest : List Oper} (hw : wantR done i o.guard = some false) (hm : noTok pros cons i = true) (hn : nvAt nv i = none)
      (k : Par (i + 1) ((o, undef) :: done) rest all) : Par i done (o :: rest) all
  | eff {i : Nat} {done all : Done} {o : Oper} (v : Value) {rest : List Oper} (cm pm bm : List Bool) (hw : wantR done i o.guard = some true) (hn : nvAt nv i = none) (hm : emOk ops pros cons i cm pm bm = true)
      (h : ∀ R, ∃ A1 A A', SelT bm (tok c) R A1 ∧ SelT cm (tok c) A1 A ∧ SelT pm (tok c) A1 A' ∧ EffW P w0 S0 n (preR F0 done i (aft o)) A A' o v) (k : Par (i + 1) ((o, v) :: done) rest all) : Par i done (o :: rest) all
  | new {i : Nat} {done all : Done} {o : Oper} (val : Nat × Value → Value) {rest : List Oper} (cm pm bm : List Bool) (hw : wantR done i o.guard = some true) (hn : nvAt nv i = some val) (hm : emOk ops pros cons i cm pm bm = true)
      (h : ∀ R, ∃ A1 A out, SelT bm (tok c) R A1 ∧ SelT cm (tok c) A1 A ∧ (∀ x, SelT pm (tok (c.upd i x)) A1 (out x)) ∧ NewW P w0 S0 n (preR F0 done i (aft o)) A out o val) (k : Par (i + 1) ((o, val (c i)) :: done) rest all) : Par i done (o :: rest) all
end
/-- Alike, but where what step i gave may tell. -/
inductive IndA (ops : List Oper) (i : Nat) : Nat → Done → Done → Prop
  | nil {k : Nat} : IndA ops i k [] []
  | same {k : Nat} {x : Oper × Value} {r s : Done} : IndA ops i k r s → IndA ops i (k + 1) (x :: r) (x :: s)
  | skip {k : Nat} {o : Oper} {x y : Value} {r s : Done} : depOk ops (some k) i = true → IndA ops i k r s → IndA ops i (k + 1) ((o, x) :: r) ((o, y) :: s)
inductive IndT (ops : List Oper) (i : Nat) : List (Option Nat) → List HP → List HP → Prop
  | nil : IndT ops i [] [] []
  | same {p : Option Nat} {ps : List (Option Nat)} {x : HP} {r s : List HP} : IndT ops i ps r s → IndT ops i (p :: ps) (x :: r) (x :: s)
  | skip {p : Option Nat} {ps : List (Option Nat)} {x y : HP} {r s : List HP} : depOk ops p i = true → IndT ops i ps r s → IndT ops i (p :: ps) (x :: r) (y :: s)
theorem IndA.len {ops : List Oper} {i k : Nat} {r s : Done} (h : IndA ops i k r s) : r.length = k ∧ s.length = k ∨ True := .inr trivial
theorem IndA.at {ops : List Oper} {i k : Nat} {r s : Done} (h : IndA ops i k r s) : k = r.length → r.length = s.length ∧ ∀ j, depOk ops (some j) i = false → r.reverse[j]? = s.reverse[j]? := by
  induction h with
  | nil => intro _; exact ⟨rfl, fun _ _ => rfl⟩
  | @same k x r s _ ih =>
    intro hk
    obtain ⟨h1, h2⟩ := ih (by simpa using hk)
    refine ⟨by simp [h1], fun j hj => ?_⟩
    have := h2 j hj
    simp only [List.reverse_cons]
    by_cases hlt : j < r.length
    · rw [List.getElem?_append_left (by simpa using hlt), List.getElem?_append_left (by simpa [← h1] using hlt)]; exact this
    · rw [List.getElem?_append_right (by simpa using hlt), List.getElem?_append_right (by simpa [← h1] using hlt)]; simp [h1]
  | @skip k o x y r s hd _ ih =>
    intro hk
    simp only [List.length_cons] at hk
    obtain ⟨h1, h2⟩ := ih (by omega)
    refine ⟨by simp [h1], fun j hj => ?_⟩
    have := h2 j hj
    simp only [List.reverse_cons]
    by_cases hlt : j < r.length
    · rw [List.getElem?_append_left (by simpa using hlt), List.getElem?_append_left (by simpa [← h1] using hlt)]; exact this
    · by_cases he : j = r.length
      · have : j = k := by omega
        subst this; rw [hd] at hj; cases hj
      · rw [List.getElem?_eq_none (by simp; omega), List.getElem?_eq_none (by simp; omega)]
theorem IndT.at {ops : List Oper} {i : Nat} {ps : List (Option Nat)} {r s : List HP} (h : IndT ops i ps r s) : r.length = s.length ∧ r.length = ps.length ∧ ∀ t, depOk ops (ps.getD t none) i = false → r[t]? = s[t]? := by
  induction h with
  | nil => exact ⟨rfl, rfl, fun _ _ => rfl⟩
  | same _ ih =>
    obtain ⟨h1, h2, h3⟩ := ih
    refine ⟨by simp [h1], by simp [h2], fun t ht => ?_⟩
    cases t with
    | zero => rfl
    | succ t => simpa using h3 t (by simpa using ht)
  | skip hd _ ih =>
    obtain ⟨h1, h2, h3⟩ := ih
    refine ⟨by simp [h1], by simp [h2], fun t ht => ?_⟩
    cases t with
    | zero => simp [hd] at ht
    | succ t => simpa using h3 t (by simpa using ht)
section
variable {P : Program} {w0 : World} {S0 : BSet} {n : Nat} {ops : List Oper} {F0 : Fr} {tok : Ch → List HP} {pros cons : List (Option Nat)} {nv : List (Nat × (Nat × Value → Value))}
/-- One step, at its place. -/
def PStep (P : Program) (w0 : World) (S0 : BSet) (n : Nat) (ops : List Oper) (F0 : Fr) (tok : Ch → List HP) (pros cons : List (Option Nat)) (nv : List (Nat × (Nat × Value → Value))) (c : Ch) (all : Done) (i : Nat) (o : Oper) (v : Value) : Prop :=
  edgesOk i o = true ∧
  ((wants all o.guard = some true ∧ nvAt nv i = none ∧ ∃ bm, (bmOk ops pros cons i bm && noTok pros cons i) = true ∧ ∀ R, ∃ A, SelT bm (tok c) R A ∧ EvW P w0 S0 n (preF F0 all (aft o)) A o v) ∨
   (wants all o.guard = some false ∧ nvAt nv i = none ∧ noTok pros cons i = true ∧ v = undef) ∨
   (wants all o.guard = some true ∧ nvAt nv i = none ∧ ∃ cm pm bm, emOk ops pros cons i cm pm bm = true ∧ ∀ R, ∃ A1 A A', SelT bm (tok c) R A1 ∧ SelT cm (tok c) A1 A ∧ SelT pm (tok c) A1 A' ∧ EffW P w0 S0 n (preF F0 all (aft o)) A A' o v) ∨
   (wants all o.guard = some true ∧ ∃ val cm pm bm, nvAt nv i = some val ∧ v = val (c i) ∧ emOk ops pros cons i cm pm bm = true ∧
     ∀ R, ∃ A1 A out, SelT bm (tok c) R A1 ∧ SelT cm (tok c) A1 A ∧ (∀ x, SelT pm (tok (c.upd i x)) A1 (out x)) ∧ NewW P w0 S0 n (preF F0 all (aft o)) A out o val))
theorem Par.ok {c : Ch} {i0 : Nat} {done all : Done} {rest : List Oper} (h : Par P w0 S0 n ops F0 tok pros cons nv c i0 done rest all) : i0 = done.length → edgesAll i0 rest = true →
    ∃ more : Done, all.reverse = done.reverse ++ more ∧ more.map (·.1) = rest ∧ ∀ i o v, more[i]? = some (o, v) → PStep P w0 S0 n ops F0 tok pros cons nv c all.reverse (done.length + i) o v := by
  have key : ∀ {done all : Done} {o : Oper} {v : Value} {rest : List Oper}, (∃ more : Done, all.reverse = ((o, v) :: done).reverse ++ more ∧ more.map (·.1) = rest ∧ ∀ i o' v', more[i]? = some (o', v') → PStep P w0 S0 n ops F0 tok pros cons nv c all.reverse (((o, v) :: done).length + i) o' v') →
      (∀ more, all.reverse = done.reverse ++ more → PStep P w0 S0 n ops F0 tok pros cons nv c all.reverse done.length o v) → ∃ more : Done, all.reverse = done.reverse ++ more ∧ more.map (·.1) = o :: rest ∧ ∀ i o' v', more[i]? = some (o', v') → PStep P w0 S0 n ops F0 tok pros cons nv c all.reverse (done.length + i) o' v' := by
    intro done all o v rest ⟨more, h1, h2, h3⟩ h4
    have h1' : all.reverse = done.reverse ++ ((o, v) :: more) := by rw [h1]; simp
    refine ⟨(o, v) :: more, h1', by simp [h2], fun i o' v' hi => ?_⟩
    cases i with
    | zero => simp at hi; obtain ⟨rfl, rfl⟩ := hi; exact h4 _ h1'
    | succ i =>
      have := h3 i o' v' (by simpa using hi)
      rw [show done.length + (i + 1) = ((o, v) :: done).length + i from by simp; omega]
      exact this
  induction h with
  | nil => intro _ _; exact ⟨[], by simp, rfl, fun i o v h => by simp at h⟩
  | @quiet i0 done all o v rest bm hw hm hn h _ ih =>
    intro hi0 he
    simp only [edgesAll, Bool.and_eq_true] at he
    subst hi0
    have hg := he.1
    refine key (ih (by simp) he.2) fun more hmo => ⟨hg, .inl ⟨?_, hn, bm, hm, ?_⟩⟩
    · rw [hmo]; rw [wantR_eq] at hw; exact wants_mono hw
    · rw [hmo, preF_mono fun e he => by simpa using (edgesOk_lt hg e he).1]; rw [preR_eq] at h; exact h
  | @skip i0 done all o rest hw hm hn _ ih =>
    intro hi0 he
    simp only [edgesAll, Bool.and_eq_true] at he
    subst hi0
    refine key (ih (by simp) he.2) fun more hmo => ⟨he.1, .inr (.inl ⟨?_, hn, hm, rfl⟩)⟩
    rw [hmo]; rw [wantR_eq] at hw; exact wants_mono hw
  | @eff i0 done all o v rest cm pm bm hw hn hm h _ ih =>
    intro hi0 he
    simp only [edgesAll, Bool.and_eq_true] at he
    subst hi0
    have hg := he.1
    refine key (ih (by simp) he.2) fun more hmo => ⟨hg, .inr (.inr (.inl ⟨?_, hn, cm, pm, bm, hm, ?_⟩))⟩
    · rw [hmo]; rw [wantR_eq] at hw; exact wants_mono hw
    · rw [hmo, preF_mono fun e he => by simpa using (edgesOk_lt hg e he).1]; rw [preR_eq] at h; exact h
  | @new i0 done all o val rest cm pm bm hw hn hm h _ ih =>
    intro hi0 he
    simp only [edgesAll, Bool.and_eq_true] at he
    subst hi0
    have hg := he.1
    refine key (ih (by simp) he.2) fun more hmo => ⟨hg, .inr (.inr (.inr ⟨?_, val, cm, pm, bm, hn, rfl, hm, ?_⟩))⟩
    · rw [hmo]; rw [wantR_eq] at hw; exact wants_mono hw
    · rw [hmo, preF_mono fun e he => by simpa using (edgesOk_lt hg e he).1]; rw [preR_eq] at h; exact h
/-- Is a token there? -/
def av (pros cons : List (Option Nat)) (L : Array Bool) (t : Nat) : Bool :=
  (match pros.getD t none with
   | none => true
   | some p => L.getD p false) &&
  (match cons.getD t none with
   | none => true
   | some q => !L.getD q false)
theorem getD_set {L : Array Bool} {i j : Nat} (hi : i < L.size) : (L.setIfInBounds i true).getD j false = (L.getD j false || Nat.beq i j) := by
  simp only [Array.getD_eq_getD_getElem?, Array.getElem?_setIfInBounds]
  by_cases e : i = j
  · subst e; simp [hi]
  · rw [if_neg e, beqF e, Bool.or_false]
theorem St.sel {S0 : BSet} {w0 w : World} {A A' : List HP} (h : St w0 S0 A w) (k : ∀ S w, (sepL A).sat S w → (sepL A').sat S w) : St w0 S0 A' w := h.mono fun S w hs => k S w hs
theorem sepL_app_mono {A A' B : List HP} {S : BSet} {w : World} (h : (sepL (B ++ A)).sat S w) (k : ∀ S, (sepL A).sat S w → (sepL A').sat S w) : (sepL (B ++ A')).sat S w :=
  sepL_append (star_mono (sepL_unappend h) (fun _ h => h) k)
theorem bmOk_at {i : Nat} {bm : List Bool} (h : bmOk ops pros cons i bm = true) {t : Nat} (ht : bm.getD t false = true) : preOk ops (pros.getD t none) i = true ∧ postOk ops (cons.getD t none) i = true := by
  unfold bmOk at h
  rw [List.all_eq_true] at h
  have hlt : t < bm.length := by
    by_cases hl : t < bm.length
    · exact hl
    · rw [List.getD_eq_getElem?_getD, List.getElem?_eq_none (by omega)] at ht; cases ht
  have := h t (List.mem_range.2 hlt)
  rw [ht] at this
  simpa using this
theorem noTok_at {i : Nat} (h : noTok pros cons i = true) (t : Nat) : pros.getD t none ≠ some i ∧ cons.getD t none ≠ some i := by
  unfold noTok at h
  simp only [Bool.and_eq_true, List.all_eq_true, Bool.not_eq_true', beq_eq_false_iff_ne, ne_eq] at h
  constructor
  · intro he
    rw [List.getD_eq_getElem?_getD] at he
    cases hp : pros[t]? with
    | none => rw [hp] at he; cases he
    | some p => rw [hp] at he; simp at he; subst he; exact h.1 _ (List.mem_of_getElem? hp) rfl
  · intro he
    rw [List.getD_eq_getElem?_getD] at he
    cases hp : cons[t]? with
    | none => rw [hp] at he; cases he
    | some p => rw [hp] at he; simp at he; subst he; exact h.2 _ (List.mem_of_getElem? hp) rfl
theorem emOk_at {i : Nat} {cm pm bm : List Bool} (h : emOk ops pros cons i cm pm bm = true) : bmOk ops pros cons i bm = true ∧ ∀ t, cm.getD t false = (cons.getD t none == some i) ∧ pm.getD t false = (pros.getD t none == some i) ∧ (bm.getD t false = true → cm.getD t false = false ∧ pm.getD t false = false) := by
  unfold emOk at h
  simp only [Bool.and_eq_true, beq_iff_eq, List.all_eq_true] at h
  obtain ⟨⟨⟨⟨⟨h1, h0⟩, h2⟩, h3⟩, h4⟩, h5⟩ := h
  refine ⟨h1, fun t => ?_⟩
  by_cases hlt : t < pros.length
  · have := h5 t (List.mem_range.2 hlt)
    obtain ⟨⟨⟨ha, hb⟩, hc⟩, hd⟩ := this
    refine ⟨ha, hb, fun hbm => ?_⟩
    rw [hbm] at hc hd
    constructor
    · cases hx : cm.getD t false with
      | false => rfl
      | true => rw [hx] at hc; cases hc
    · cases hx : pm.getD t false with
      | false => rfl
      | true => rw [hx] at hd; cases hd
  · refine ⟨?_, ?_, fun h => by rw [List.getD_eq_getElem?_getD, List.getElem?_eq_none (by omega)] at h; cases h⟩
    · rw [List.getD_eq_getElem?_getD, List.getElem?_eq_none (by omega), List.getD_eq_getElem?_getD, List.getElem?_eq_none (by omega)]; rfl
    · rw [List.getD_eq_getElem?_getD, List.getElem?_eq_none (by omega), List.getD_eq_getElem?_getD, List.getElem?_eq_none (by omega)]; rfl
/-- Where a walk through the region stands. -/
structure PMid (w0 : World) (S0 : BSet) (n : Nat) (ops : List Oper) (F0 : Fr) (tok : Ch → List HP) (pros cons : List (Option Nat)) (all : Ch → Done) (L : Array Bool) (a : Act) (w : World) : Prop where
  size : L.size = ops.length
  down : ∀ (i : Nat) (o : Oper), L[i]? = some true → ops[i]? = some o → ∀ e ∈ aft o, L[e.on]? = some true
  base : Agr n F0 a
  st : ∃ c, (∀ (i : Nat) (o : Oper) (v : Value) (d : Nat), L[i]? = some true → (all c)[i]? = some (o, v) → o.dst = some d → a.tmps[d]? = some v) ∧ St w0 S0 (selF (av pros cons L) 0 (tok c)) w
theorem par_all {Q : Exit → Act → World → Prop} {all : Ch → Done} (hall : ∀ c, (all c).map (·.1) = ops) (hok : ∀ c i o v, (all c)[i]? = some (o, v) → PStep P w0 S0 n ops F0 tok pros cons nv c (all c) i o v) (hslots : slotsOk F0 ops [] = true) (hdst : ops.all (fun o => o.dst.all fun d => Nat.blt d n) = true)
    (hgok : gOk ops pros cons = true) (hlen : ∀ c, (tok c).length = pros.length) (hindA : ∀ i, nvAt nv i ≠ none → ∀ c x j, depOk ops (some j) i = false → (all (c.upd i x))[j]? = (all c)[j]?)
    (hindT : ∀ i, nvAt nv i ≠ none → ∀ c x t, depOk ops (pros.getD t none) i = false → (tok (c.upd i x))[t]? = (tok c)[t]?)
    (hfin : ∀ c a w, Agr n (allF F0 (all c)) a → St w0 S0 (selF (fun t => (cons.getD t none).isNone) 0 (tok c)) w → Q .normal a w) :
    ∀ (fuel : Nat) (L : Array Bool) (a : Act) (w : World), ((List.range ops.length).countP fun i => !L.getD i false) ≤ fuel → PMid w0 S0 n ops F0 tok pros cons all L a w → wpAny P .any ops.toArray Q fuel L a w := by
  have hall' : ∀ (c : Ch) (i : Nat) (o : Oper), ops[i]? = some o → ∃ v, (all c)[i]? = some (o, v) := by
    intro c i o h
    rw [← hall c, List.getElem?_map] at h
    cases ha : (all c)[i]? with
    | none => rw [ha] at h; cases h
    | some x => rw [ha] at h; simp at h; exact ⟨x.2, by rw [← h]⟩
  have c0 : Ch := fun _ => (0, undef)
  have hlt : ∀ (i : Nat) (o : Oper), ops[i]? = some o → ∀ e ∈ aft o, e.on < i ∧ Region.binds .any e = true := by
    intro i o h
    obtain ⟨v, hv⟩ := hall' c0 i o h
    exact edgesOk_lt (hok c0 i o v hv).1
  have hb : ∀ o ∈ ops, ∀ e ∈ aft o, Region.binds .any e = true := by
    intro o ho e he
    obtain ⟨i, hi⟩ := List.getElem?_of_mem ho
    exact (hlt i o hi e he).2
  have done : ∀ L a w, PMid w0 S0 n ops F0 tok pros cons all L a w → Region.ready .any ops.toArray L = [] → Q .normal a w := by
    intro L a w hm hr
    have hl := ready_nil hr hm.size (fun i o h e he => (hlt i o h e he).1)
    obtain ⟨c, htold, hst⟩ := hm.st
    have hin : ∀ (i : Nat) (o : Oper) (v : Value), (all c)[i]? = some (o, v) → i < ops.length := fun i o v ha => by have := (List.getElem?_eq_some_iff.1 ha).1; rw [← hall c]; simpa using this
    refine hfin c a w ⟨hm.base.defers, hm.base.size, fun t u ht => ?_⟩ ?_
    · rcases allF_get ht with h | ⟨i, o, ha, hd⟩
      · exact hm.base.get t u h
      · exact htold i o u t (hl i (hin i o u ha)) ha hd
    · refine hst.sel fun S w hs => ?_
      have hgo := hgok
      unfold gOk at hgo
      rw [Bool.and_eq_true, List.all_eq_true, List.all_eq_true] at hgo
      have hav : ∀ t, av pros cons L t = (cons.getD t none).isNone := by
        intro t
        unfold av
        have h1 : (match pros.getD t none with | none => true | some p => L.getD p false) = true := by
          cases hp : pros.getD t none with
          | none => rfl
          | some p =>
            rw [List.getD_eq_getElem?_getD] at hp
            cases hq : pros[t]? with
            | none => rw [hq] at hp; cases hp
            | some p' =>
              rw [hq] at hp; simp at hp; subst hp
              have := hgo.1 _ (List.mem_of_getElem? hq)
              exact listedB.2 (hl p (by simpa using this))
        rw [h1, Bool.true_and]
        cases hc : cons.getD t none with
        | none => rfl
        | some q =>
          have htc : t < cons.length := by
            by_cases h : t < cons.length
            · exact h
            · rw [List.getD_eq_getElem?_getD, List.getElem?_eq_none (by omega)] at hc; cases hc
          have := hgo.2 t (List.mem_range.2 htc)
          rw [hc] at this
          simp only [Bool.and_eq_true] at this
          have hq : q < ops.length := by simpa using this.1
          have := listedB.2 (hl q hq)
          simp [this]
      rw [selF_ext _ _ hav] at hs
      exact hs
  intro fuel
  induction fuel with
  | zero =>
    intro L a w hc hm
    have hr : Region.ready .any ops.toArray L = [] := by
      rw [List.eq_nil_iff_forall_not_mem]
      intro i hi
      obtain ⟨h1, h2, _⟩ := mem_ready hi hb
      have : (List.range ops.length).countP (fun i => !L.getD i false) = 0 := by omega
      rw [List.countP_eq_zero] at this
      have h3 := this i (List.mem_range.2 h1)
      simp only [Bool.not_eq_true', Bool.not_eq_false] at h3
      exact h2 (listedB.1 h3)
    exact ⟨hr, done L a w hm hr⟩
  | succ fuel ih =>
    intro L a w hc hm
    refine ⟨done L a w hm, fun i hi => ?_⟩
    obtain ⟨hilt, hnot, o, ho, hpre⟩ := mem_ready hi hb
    obtain ⟨c, htold, hst⟩ := hm.st
    obtain ⟨v, hv⟩ := hall' c i o ho
    obtain ⟨hedge, hstep⟩ := hok c i o v hv
    have hiL : i < L.size := by rw [hm.size]; exact hilt
    let L' := L.setIfInBounds i true
    have hL' : ∀ j, L'[j]? = if i = j then some true else L[j]? := by
      intro j
      show (L.setIfInBounds i true)[j]? = _
      rw [Array.getElem?_setIfInBounds]
      by_cases e : i = j
      · simp [e]; omega
      · simp [e]
    have hcnt : ((List.range ops.length).countP fun j => !L'.getD j false) ≤ fuel := by
      have h1 : ((List.range ops.length).countP fun j => !L'.getD j false) < ((List.range ops.length).countP fun j => !L.getD j false) := by
        have hsplit : List.range ops.length = List.range i ++ i :: List.range' (i + 1) (ops.length - (i + 1)) := by
          rw [List.range_eq_range', List.range_eq_range', ← List.range'_succ]
          rw [show ops.length - (i + 1) + 1 = ops.length - i from by omega]
          have := List.range'_append (s := 0) (m := i) (n := ops.length - i) (step := 1)
          simp at this
          rw [this]
          congr 1; omega
        rw [hsplit]
        simp only [List.countP_append, List.countP_cons]
        have e1 : ∀ l : List Nat, i ∉ l → l.countP (fun j => !L'.getD j false) = l.countP (fun j => !L.getD j false) := by
          intro l hl
          apply List.countP_congr
          intro j hj
          have hne : i ≠ j := fun e => hl (e ▸ hj)
          simp only [Array.getD_eq_getD_getElem?, hL' j, hne, ↓reduceIte]
        rw [e1 _ (by simp), e1 _ (by simp; omega)]
        have h2 : (!L'.getD i false) = false := by simp [Array.getD_eq_getD_getElem?, hL' i]
        have h3 : (!L.getD i false) = true := by
          cases hb : L.getD i false with
          | false => rfl
          | true => exact absurd (listedB.1 hb) hnot
        simp only [h2, h3, Bool.false_eq_true, ↓reduceIte]
        omega
      omega
    have hfr : Agr n (preF F0 (all c) (aft o)) a := ⟨hm.base.defers, hm.base.size, fun t u ht => by
      rcases preF_get ht with h | ⟨e, he, o', d, ha, hd, rfl⟩
      · exact hm.base.get t u h
      · exact htold e.on o' u d (hpre e he) ha hd⟩
    have hdown' : ∀ (j : Nat) (o' : Oper), L'[j]? = some true → ops[j]? = some o' → ∀ e ∈ aft o', L'[e.on]? = some true := by
      intro j o' hj ho' e he
      rw [hL'] at hj ⊢
      split
      · rfl
      · by_cases e1 : i = j
        · subst e1; rw [ho] at ho'; cases ho'; exact hpre e he
        · rw [if_neg e1] at hj; exact hm.down j o' hj ho' e he
    have hput : ∀ (c' : Ch) (u : Value), (all c')[i]? = some (o, u) → (∀ (j : Nat) (o' : Oper) (v' : Value) (d : Nat), L[j]? = some true → (all c')[j]? = some (o', v') → o'.dst = some d → a.tmps[d]? = some v') →
        (Agr n F0 (a.put o.dst u) ∧ ∀ (j : Nat) (o' : Oper) (v' : Value) (d : Nat), L'[j]? = some true → (all c')[j]? = some (o', v') → o'.dst = some d → (a.put o.dst u).tmps[d]? = some v') := by
      intro c' u hv' htold'
      obtain ⟨hs1, hs2⟩ := slotsOk_get hslots
      cases hd : o.dst with
      | none =>
        refine ⟨hm.base, fun j o' v' d hj ha hd' => ?_⟩
        rw [hL'] at hj
        by_cases e1 : i = j
        · subst e1; rw [hv'] at ha; cases ha; rw [hd] at hd'; cases hd'
        · rw [if_neg e1] at hj; exact htold' j o' v' d hj ha hd'
      | some d0 =>
        have hd0 : d0 < n := by
          rw [List.all_eq_true] at hdst
          have := hdst o (List.mem_of_getElem? ho)
          rw [hd] at this; simpa using this
        refine ⟨⟨hm.base.defers, by simp [Act.put, hm.base.size], fun t u' ht => ?_⟩, fun j o' v' d hj ha hd' => ?_⟩
        · have hne : d0 ≠ t := fun e => by subst e; rw [(hs1 i o d0 ho hd).2] at ht; cases ht
          simp only [Act.put, Array.getElem?_setIfInBounds, hne, ↓reduceIte]
          exact hm.base.get t u' ht
        · rw [hL'] at hj
          have hoj : ops[j]? = some o' := by rw [← hall c', List.getElem?_map, ha]; rfl
          by_cases e1 : i = j
          · subst e1
            rw [hv'] at ha; cases ha
            rw [hd] at hd'; cases hd'
            simp [Act.put, hm.base.size, hd0]
          · rw [if_neg e1] at hj
            have hne : d0 ≠ d := fun e => e1 (by subst e; exact hs2 i j o o' d0 ho hoj hd hd')
            simp only [Act.put, Array.getElem?_setIfInBounds, hne, ↓reduceIte]
            exact htold' j o' v' d hj ha hd'
    have hwant : ∀ b, wants (all c) o.guard = some b → Region.wanted o (yielded ops.toArray a.tmps) = b := by
      intro b hw
      cases hg : o.guard with
      | none => rw [hg] at hw; simp [wants] at hw; simp [Region.wanted, hg, hw]
      | some g =>
        obtain ⟨j, b0⟩ := g
        rw [hg] at hw
        have hgj : ∃ e ∈ aft o, e.on = j := by
          simp only [edgesOk, hg, Option.all_some, Bool.and_eq_true, List.any_eq_true, beq_iff_eq] at hedge
          exact hedge.1
        obtain ⟨e, he, rfl⟩ := hgj
        simp only [wants] at hw
        cases ha : (all c)[e.on]? with
        | none => rw [ha] at hw; cases hw
        | some x =>
          obtain ⟨o', v'⟩ := x
          rw [ha] at hw
          cases v' with
          | bool b' =>
            simp only [] at hw
            cases hd : o'.dst with
            | none => simp [hd] at hw
            | some d =>
              simp [hd] at hw
              have h1 := htold e.on o' (.bool b') d (hpre e he) ha hd
              have hoj : ops[e.on]? = some o' := by rw [← hall c, List.getElem?_map, ha]; rfl
              simp [Region.wanted, hg, yielded, hoj, hd, h1, hw]
          | _ =>
            simp only [] at hw
            cases hd : o'.dst with
            | none => simp [hd] at hw
            | some d =>
              simp [hd] at hw
              have h1 := htold e.on o' _ d (hpre e he) ha hd
              have hoj : ops[e.on]? = some o' := by rw [← hall c, List.getElem?_map, ha]; rfl
              simp [Region.wanted, hg, yielded, hoj, hd, h1, ← hw]
    have hLi : L.getD i false = false := by
      cases hb : L.getD i false with
      | false => rfl
      | true => exact absurd (listedB.1 hb) hnot
    have ain : ∀ j, ahead ops ops.length j i = true → L.getD j false = true := fun j h => listedB.2 (ahead_in (L := fun x => L[x]? = some true) (fun x o' hx ho' => hm.down x o' hx ho') ops.length j i h (fun o' ho' => by rw [ho] at ho'; cases ho'; exact hpre))
    have aout : ∀ j, ahead ops ops.length i j = true → L.getD j false = false := fun j h => by
      cases hj : L.getD j false with
      | false => rfl
      | true => exact absurd (ahead_in (L := fun x => L[x]? = some true) (fun x o' hx ho' => hm.down x o' hx ho') ops.length i j h (fun o' ho' => hm.down j o' (listedB.1 hj) ho')) hnot
    have hgo := hgok
    unfold gOk at hgo
    rw [Bool.and_eq_true, List.all_eq_true, List.all_eq_true] at hgo
    -- what somebody takes was made ahead of him
    have hpc : ∀ t p q, pros.getD t none = some p → cons.getD t none = some q → ahead ops ops.length p q = true ∧ p ≠ q := by
      intro t p q hp hq
      have htc : t < cons.length := by
        by_cases h : t < cons.length
        · exact h
        · rw [List.getD_eq_getElem?_getD, List.getElem?_eq_none (by omega)] at hq; cases hq
      have := hgo.2 t (List.mem_range.2 htc)
      rw [hq, hp] at this
      simp only [Bool.and_eq_true, Bool.not_eq_true', beq_eq_false_iff_ne] at this
      exact this.2
    have hset : ∀ j, L'.getD j false = (L.getD j false || Nat.beq i j) := fun j => getD_set hiL
    have havb : ∀ (bm : List Bool), bmOk ops pros cons i bm = true → ∀ t, bm.getD t false = true → av pros cons L t = true := by
      intro bm hbm t ht
      obtain ⟨h1, h2⟩ := bmOk_at hbm ht
      unfold av
      rw [Bool.and_eq_true]
      constructor
      · cases hp : pros.getD t none with
        | none => rfl
        | some p => rw [hp] at h1; exact ain p h1
      · cases hq : cons.getD t none with
        | none => rfl
        | some q => rw [hq] at h2; simp only []; rw [aout q h2]; rfl
    have hsame : ∀ t, pros.getD t none ≠ some i → cons.getD t none ≠ some i → av pros cons L' t = av pros cons L t := by
      intro t h1 h2
      unfold av
      congr 1
      · cases hp : pros.getD t none with
        | none => rfl
        | some p => simp only []; rw [hset, beqF (fun e => h1 (by rw [hp, e])), Bool.or_false]
      · cases hq : cons.getD t none with
        | none => rfl
        | some q => simp only []; rw [hset, beqF (fun e => h2 (by rw [hq, e])), Bool.or_false]
    -- what step i takes
    have htaken : ∀ t, cons.getD t none = some i → av pros cons L t = true ∧ av pros cons L' t = false := by
      intro t h
      constructor
      · unfold av
        rw [h]
        simp only [hLi, Bool.not_false, Bool.and_true]
        cases hp : pros.getD t none with
        | none => rfl
        | some p => exact ain p (hpc t p i hp h).1
      · unfold av
        rw [h]
        simp only [hset, Nat.beq_refl, Bool.or_true, Bool.not_true, Bool.and_false]
    have hmade : ∀ t, pros.getD t none = some i → av pros cons L t = false ∧ av pros cons L' t = true := by
      intro t h
      constructor
      · unfold av; rw [h]; simp only [hLi, Bool.false_and]
      · unfold av
        rw [h]
        simp only [hset, Nat.beq_refl, Bool.or_true, Bool.true_and]
        cases hq : cons.getD t none with
        | none => rfl
        | some q =>
          have h2 := hpc t i q h hq
          simp only []
          rw [aout q h2.1, beqF h2.2]; rfl
    have hopsA : ops.toArray[i]? = some o := by simpa using ho
    have parts : ∀ (cm pm bm : List Bool), emOk ops pros cons i cm pm bm = true →
        (∀ t, av pros cons L t = (cm.getD t false || (bm.getD t false || (av pros cons L t && !cm.getD t false && !bm.getD t false)))) ∧ (∀ t, av pros cons L' t = (pm.getD t false || (bm.getD t false || (av pros cons L t && !cm.getD t false && !bm.getD t false)))) ∧
        (∀ t, cm.getD t false = true → (bm.getD t false || (av pros cons L t && !cm.getD t false && !bm.getD t false)) = false) ∧ (∀ t, pm.getD t false = true → (bm.getD t false || (av pros cons L t && !cm.getD t false && !bm.getD t false)) = false) ∧
        ∀ t, bm.getD t false = true → (av pros cons L t && !cm.getD t false && !bm.getD t false) = false := by
      intro cm pm bm hem
      obtain ⟨hbm, hat⟩ := emOk_at hem
      have hb := havb bm hbm
      refine ⟨fun t => ?_, fun t => ?_, fun t => ?_, fun t => ?_, fun t => ?_⟩
      · obtain ⟨h1, h2, h3⟩ := hat t
        have h4 := hb t
        have h5 := htaken t
        cases hcm : cm.getD t false with
        | true => rw [hcm] at h1; have := h5 (by simpa using h1.symm); rw [this.1]; rfl
        | false => cases hbt : bm.getD t false with
          | true => rw [h4 hbt]; rfl
          | false => simp
      · obtain ⟨h1, h2, h3⟩ := hat t
        have h4 := hb t
        have h5 := htaken t
        have h6 := hmade t
        cases hpm : pm.getD t false with
        | true => rw [hpm] at h2; have := h6 (by simpa using h2.symm); rw [this.2]; rfl
        | false =>
          rw [hpm] at h2
          have hp : pros.getD t none ≠ some i := by simpa using h2.symm
          cases hcm : cm.getD t false with
          | true =>
            rw [hcm] at h1
            have h7 := h5 (by simpa using h1.symm)
            rw [h7.2]
            cases hbt : bm.getD t false with
            | true => have := (h3 hbt).1; rw [hcm] at this; cases this
            | false => simp
          | false =>
            rw [hcm] at h1
            have hq : cons.getD t none ≠ some i := by simpa using h1.symm
            rw [hsame t hp hq]
            cases hbt : bm.getD t false with
            | true => rw [h4 hbt]; rfl
            | false => simp
      · obtain ⟨h1, h2, h3⟩ := hat t
        intro hcm
        cases hbt : bm.getD t false with
        | true => have := (h3 hbt).1; rw [hcm] at this; cases this
        | false => rw [hcm]; simp
      · obtain ⟨h1, h2, h3⟩ := hat t
        intro hpm
        rw [hpm] at h2
        have h6 := hmade t (by simpa using h2.symm)
        cases hbt : bm.getD t false with
        | true => have := (h3 hbt).2; rw [hpm] at this; cases this
        | false => rw [h6.1]; rfl
      · intro hbt; rw [hbt]; simp
    unfold wpOp
    rw [hopsA]
    simp only []
    rcases hstep with ⟨hw, hn, bm, hm2, hR⟩ | ⟨hw, hn, hnt, hvu⟩ | ⟨hw, hn, cm, pm, bm, hem, hR⟩ | ⟨hw, val, cm, pm, bm, hnv, hvv, hem, hR⟩
    · rw [if_pos (hwant true hw)]
      rw [Bool.and_eq_true] at hm2
      obtain ⟨A, hA, hev⟩ := hR (selF (fun t => av pros cons L t && !bm.getD t false) 0 (tok c))
      have eA := hA.at
      have hb := havb bm hm2.1
      have hd : ∀ t, av pros cons L t = (bm.getD t false || (av pros cons L t && !bm.getD t false)) := fun t => by
        cases hbt : bm.getD t false with
        | true => rw [hb t hbt]; rfl
        | false => simp
      have hx : ∀ t, bm.getD t false = true → (av pros cons L t && !bm.getD t false) = false := fun t h => by rw [h]; simp
      refine .inl (hev.go _ _ a w hfr (hst.sel fun S w hs => by rw [eA]; exact selF_split hd hx _ 0 hs) fun w' hs' => ih L' _ w' hcnt ⟨by simp [L', hm.size], hdown', (hput c v hv htold).1, c, (hput c v hv htold).2, hs'.sel fun S w hs => ?_⟩)
      rw [eA] at hs
      have := selF_join hd hx _ 0 hs
      rwa [selF_ext _ _ (fun t => (hsame t (noTok_at hm2.2 t).1 (noTok_at hm2.2 t).2))]
    · rw [if_neg (by rw [hwant false hw]; simp)]
      subst hvu
      refine ih L' _ w hcnt ⟨by simp [L', hm.size], hdown', (hput c undef hv htold).1, c, (hput c undef hv htold).2, hst.sel fun S w hs => ?_⟩
      rwa [selF_ext _ _ (fun t => (hsame t (noTok_at hnt t).1 (noTok_at hnt t).2))]
    · rw [if_pos (hwant true hw)]
      obtain ⟨p1, p2, p3, p4, p5⟩ := parts cm pm bm hem
      obtain ⟨A1, A, A', h1, h2, h3, hE⟩ := hR (selF (fun t => av pros cons L t && !cm.getD t false && !bm.getD t false) 0 (tok c))
      have e1 := h1.at
      have e2 := h2.at
      have e3 := h3.at
      rw [e1] at e2 e3
      refine .inl (hE.go _ _ a w hfr (hst.sel fun S w hs => ?_) fun w' hs' => ih L' _ w' hcnt ⟨by simp [L', hm.size], hdown', (hput c v hv htold).1, c, (hput c v hv htold).2, hs'.sel fun S w hs => ?_⟩)
      · rw [e2]
        exact sepL_app_mono (selF_split p1 p3 _ 0 hs) fun _ h => selF_split (fun t => rfl) p5 _ 0 h
      · rw [e3] at hs
        exact selF_join p2 p4 _ 0 (sepL_app_mono hs fun _ h => selF_join (f := fun t => bm.getD t false || (av pros cons L t && !cm.getD t false && !bm.getD t false)) (fun t => rfl) p5 _ 0 h)
    · rw [if_pos (hwant true hw)]
      obtain ⟨p1, p2, p3, p4, p5⟩ := parts cm pm bm hem
      obtain ⟨A1, A, out, h1, h2, h3, hE⟩ := hR (selF (fun t => av pros cons L t && !cm.getD t false && !bm.getD t false) 0 (tok c))
      have e1 := h1.at
      have e2 := h2.at
      rw [e1] at e2
      have hne : nvAt nv i ≠ none := by rw [hnv]; simp
      -- what was told doesn't hang on what step i gives
      have hfar : ∀ j, L.getD j false = true → depOk ops (some j) i = false := by
        intro j hj
        unfold depOk
        simp only [Bool.or_eq_false_iff, beq_eq_false_iff_ne]
        refine ⟨fun e => by (subst e; rw [hLi] at hj; cases hj), ?_⟩
        cases ha : ahead ops ops.length i j with
        | false => rfl
        | true => rw [aout j ha] at hj; cases hj
      have hfarT : ∀ t, av pros cons L t = true → depOk ops (pros.getD t none) i = false := by
        intro t ht
        cases hp : pros.getD t none with
        | none => rfl
        | some p =>
          unfold av at ht
          rw [hp, Bool.and_eq_true] at ht
          exact hfar p ht.1
      refine .inl (hE.go _ _ a w hfr (hst.sel fun S w hs => ?_) fun x w' hs' => ?_)
      · rw [e2]
        exact sepL_app_mono (selF_split p1 p3 _ 0 hs) fun _ h => selF_split (fun t => rfl) p5 _ 0 h
      · obtain ⟨v', hv'⟩ := hall' (c.upd i x) i o ho
        have hval : v' = val x := by
          obtain ⟨_, hst'⟩ := hok (c.upd i x) i o v' hv'
          rcases hst' with ⟨_, hn, _⟩ | ⟨_, hn, _⟩ | ⟨_, hn, _⟩ | ⟨_, val', _, _, _, hnv', hvv', _⟩
          · rw [hnv] at hn; cases hn
          · rw [hnv] at hn; cases hn
          · rw [hnv] at hn; cases hn
          · rw [hnv] at hnv'; cases hnv'
            rw [hvv', Ch.upd_self]
        subst hval
        have htold' : ∀ (j : Nat) (o' : Oper) (v' : Value) (d : Nat), L[j]? = some true → (all (c.upd i x))[j]? = some (o', v') → o'.dst = some d → a.tmps[d]? = some v' := by
          intro j o' v' d hj ha hd
          rw [hindA i hne c x j (hfar j (listedB.2 hj))] at ha
          exact htold j o' v' d hj ha hd
        refine ih L' _ w' hcnt ⟨by simp [L', hm.size], hdown', (hput _ _ hv' htold').1, c.upd i x, (hput _ _ hv' htold').2, hs'.sel fun S w hs => ?_⟩
        have e3 := (h3 x).at
        rw [e1] at e3
        rw [e3] at hs
        have l1 : (tok c).length = (tok (c.upd i x)).length := by rw [hlen, hlen]
        rw [selF_congr (f := fun t => bm.getD t false) (g := fun t => bm.getD t false) (tok c) (tok (c.upd i x)) 0 l1 (fun _ _ => rfl) (fun t ht => (hindT i hne c x t (hfarT t (havb bm (emOk_at hem).1 t (by simpa using ht)))).symm),
          selF_congr (f := fun t => av pros cons L t && !cm.getD t false && !bm.getD t false) (g := fun t => av pros cons L t && !cm.getD t false && !bm.getD t false) (tok c) (tok (c.upd i x)) 0 l1 (fun _ _ => rfl) (fun t ht => (hindT i hne c x t (hfarT t (by simp at ht; exact ht.1.1))).symm)] at hs
        exact selF_join p2 p4 _ 0 (sepL_app_mono hs fun _ h => selF_join (f := fun t => bm.getD t false || (av pros cons L t && !cm.getD t false && !bm.getD t false)) (fun t => rfl) p5 _ 0 h)
/-- For each step that gives something new. -/
inductive AllN (p : Nat → Prop) : List (Nat × (Nat × Value → Value)) → Prop
  | nil : AllN p []
  | cons {i : Nat} {f : Nat × Value → Value} {r : List (Nat × (Nat × Value → Value))} : p i → AllN p r → AllN p ((i, f) :: r)
theorem AllN.at {p : Nat → Prop} {nv : List (Nat × (Nat × Value → Value))} (h : AllN p nv) : ∀ i, nvAt nv i ≠ none → p i := by
  induction h with
  | nil => intro i hi; exact absurd rfl hi
  | @cons j f r hj _ ih =>
    intro i hi
    simp only [nvAt] at hi
    by_cases e : j = i
    · subst e; exact hj
    · rw [beqF e] at hi; exact ih i hi
theorem WC.par {id : Nat} {Q : Exit → Act → World → Prop} {F : Fr} {A : List HP} {all : Ch → Done} (F0 : Fr) (tok : Ch → List HP) (pros cons : List (Option Nat)) (nv : List (Nat × (Nat × Value → Value))) (hmix : P.follows .mixedOrders = true) (hr : Restr (dsts ops) [] F F0) (hA : ∀ c, SelT (pros.map fun p => p.isNone) (tok c) [] A)
    (hslots : slotsOk F0 ops [] = true) (hdst : ops.all (fun o => o.dst.all fun d => Nat.blt d n) = true) (hg : (edgesAll 0 ops && gOk ops pros cons) = true)
    (hd : ∀ c, Par P w0 S0 n ops F0 tok pros cons nv c 0 [] ops (all c))
    (hindA : AllN (fun i => ∀ c x, IndA ops i ops.length (all (c.upd i x)) (all c)) nv) (hindT : AllN (fun i => ∀ c x, IndT ops i pros (tok (c.upd i x)) (tok c)) nv)
    (hlen : ∀ c, (tok c).length = pros.length)
    (h : ∀ c, ∃ Z, SelT (cons.map fun p => p.isNone) (tok c) [] Z ∧ WE w0 S0 n Q .normal (allF F0 (all c)) Z) : WC P w0 S0 n (.region id ops.toArray true) Q F A := by
  refine ⟨fun a w ha hs => wp_region_any hmix ?_⟩
  rw [Bool.and_eq_true] at hg
  have hsub : Sub F0 F := Sub.refl' hr F fun t v h => hr.get t v rfl h
  have hall : ∀ c, (all c).reverse.map (·.1) = ops := fun c => by
    obtain ⟨more, h1, h2, _⟩ := (hd c).ok rfl hg.1
    simp only [List.reverse_nil, List.nil_append] at h1
    rw [h1]; exact h2
  have hal : ∀ c, (all c).length = ops.length := fun c => by have := congrArg List.length (hall c); simpa using this
  have hg1 : ∀ t, (pros.map fun p => p.isNone).getD t false = true → (pros.getD t none).isNone = true := by
    intro t ht
    rw [List.getD_eq_getElem?_getD, List.getElem?_map] at ht
    rw [List.getD_eq_getElem?_getD]
    cases hp : pros[t]? with
    | none => rfl
    | some p => rw [hp] at ht; exact ht
  refine par_all (w0 := w0) (S0 := S0) (P := P) (all := fun c => (all c).reverse) (tok := tok) (pros := pros) (cons := cons) (nv := nv) hall (fun c i o v hi => ?_) hslots hdst hg.2 hlen (fun i hi c x j hj => ?_) (fun i hi c x t ht => ((hindT.at i hi) c x).at.2.2 t ht) (fun c a w ha hs => ?_) _ _ _ _ ?_ ⟨by simp, ?_, ha.sub hsub, ?_⟩
  · obtain ⟨more, h1, h2, h3⟩ := (hd c).ok rfl hg.1
    simp only [List.reverse_nil, List.nil_append] at h1
    have := h3 i o v (by rw [← h1]; exact hi)
    simpa using this
  · exact (((hindA.at i hi) c x).at (hal _).symm).2 j hj
  · obtain ⟨Z, hZ, hE⟩ := h c
    refine hE.go a w ⟨ha.defers, ha.size, fun t u ht => ha.get t u (allF_rev hslots (hall c) ht)⟩ (hs.sel fun S w hs => ?_)
    have := hZ.at
    rw [this, List.append_nil]
    have hcl : cons.length = (tok c).length := by have := hZ.len; simpa using this
    rw [selF_congr (g := fun t => (cons.map fun p => p.isNone).getD t false) (tok c) (tok c) 0 rfl (fun t ht => ?_) (fun _ _ => rfl)] at hs
    · exact hs
    · rw [Nat.zero_add, List.getD_eq_getElem?_getD, List.getD_eq_getElem?_getD, List.getElem?_map, List.getElem?_eq_getElem (by omega)]; rfl
  · exact Nat.le_trans (List.countP_le_length ..) (by simp)
  · intro i o hi; exact absurd hi (rep_false i)
  · refine ⟨fun _ => (0, undef), fun i o v d hi => absurd hi (rep_false i), (hs.drew _).sel fun S w hs => ?_⟩
    have := (hA fun _ => (0, undef)).at
    rw [this, List.append_nil] at hs
    rw [selF_congr (g := fun t => (pros.map fun p => p.isNone).getD t false) (tok _) (tok fun _ => (0, undef)) 0 rfl (fun t ht => ?_) (fun _ _ => rfl)]
    · exact hs
    · rw [hlen] at ht
      rw [Nat.zero_add, List.getD_eq_getElem?_getD, List.getElem?_map, List.getElem?_eq_getElem ht]
      unfold av
      rw [List.getD_eq_getElem?_getD, List.getElem?_eq_getElem ht]
      simp only [Option.getD_some, Option.map_some]
      have hf : ∀ q, (Array.replicate ops.toArray.size false).getD q false = false := fun q => by
        rw [Array.getD_eq_getD_getElem?, Array.getElem?_replicate]; split <;> rfl
      have h2 : (match cons.getD t none with | none => true | some q => !(Array.replicate ops.toArray.size false).getD q false) = true := by
        cases cons.getD t none with
        | none => rfl
        | some q => simp only [hf]; rfl
      rw [h2, Bool.and_true]
      cases pros[t] with
      | none => rfl
      | some p => simp only [hf]; rfl
end
end Go.BK
namespace Go.BK
open Go.RowKit
section
variable {P : Program} {w0 : World} {S0 : BSet} {n : Nat} {F : Fr} {A r : List HP} {dd : Option Tmp} {T : TypeId} {pos : String} {af : Array Edge} {x y : Operand} {v u : Value} {t ty e : TypeId} {k : IntKind} {a b : Int} {cs ys : List Value} {bl o sz len m : Nat} {g : Option (Nat × Bool)} {out : Nat × Value → List HP}
theorem NewW.box {el : TypeId} (hx : ev F x = some v) (hv : v.cells = cs.toArray) (ho : ∀ p, out p = .blk p.1 cs.toArray el :: A) : NewW P w0 S0 n F A out ⟨dd, .box el x, T, pos, af, g⟩ (fun p => ptr p.1 0) := by
  refine ⟨fun Q K a w ha hst hK => ?_⟩
  have hrun : (execOp a.eval ⟨dd, .box el x, T, pos, af, g⟩).run P w = .ok (.value (ptr w.heap.size 0)) (w.alloc (.cells cs.toArray el)) := by
    simp [execOp, ha.eval hx, Instr.box, newVar, newRow, hv]
  unfold Oper.wp
  rw [hrun]
  exact hK (w.heap.size, undef) _ (by rw [ho]; exact hst.newBlk _ _)
theorem NewW.alloc {el : TypeId} {z : Value} (hz : zvB P el = some z) (hv : z.cells = cs.toArray) (ho : ∀ p, out p = .blk p.1 cs.toArray el :: A) : NewW P w0 S0 n F A out ⟨dd, .alloc el, T, pos, af, g⟩ (fun p => ptr p.1 0) := by
  refine ⟨fun Q K a w ha hst hK => ?_⟩
  have hrun : (execOp a.eval ⟨dd, .alloc el, T, pos, af, g⟩).run P w = .ok (.value (ptr w.heap.size 0)) (w.alloc (.cells cs.toArray el)) := by
    simp [execOp, Instr.alloc, runZv hz, newVar, newRow, hv]
  unfold Oper.wp
  rw [hrun]
  exact hK (w.heap.size, undef) _ (by rw [ho]; exact hst.newBlk _ _)
theorem NewW.buildSlice {parts : List (Nat × Operand)} {len : Nat} {e : TypeId} {sz : Nat} {z : Value} {vs : List Value} (hu : P.underlying t = some (.slice e)) (hz : szB P e = some sz) (hzv : zvB P e = some z) (hzs : Nat.beq z.cells.size sz = true)
    (hi : parts.map (·.1) = List.range len) (hvs : evs F (parts.map (·.2)) = some vs) (hf : Flat sz vs cs) (hlen : Nat.beq vs.length len = true) (hsmall : Nat.ble (len * sz) (2 ^ 24) = true) (ho : ∀ p, out p = .blk p.1 cs.toArray e :: A) :
    NewW P w0 S0 n F A out ⟨dd, .buildSlice t len parts.toArray, T, pos, af, g⟩ (fun p => .slice (some ⟨p.1, 0, none⟩) len len) := by
  have hlen := Nat.eq_of_beq_eq_true hlen
  have hzs := Nat.eq_of_beq_eq_true hzs
  have hsmall := Nat.le_of_ble_eq_true hsmall
  refine ⟨fun Q K a w ha hst hK => ?_⟩
  have hvals : ∀ (l : List (Nat × Operand)) (vs : List Value), evs F (l.map (·.2)) = some vs → l.map (fun p => (p.1, a.eval p.2)) = (l.map (·.1)).zip vs := by
    intro l
    induction l with
    | nil => intro vs h; simp [evs] at h; simp [h]
    | cons p r ih =>
      intro vs h
      simp only [List.map_cons, evs] at h
      cases ht : ev F p.2 with
      | none => simp [ht] at h
      | some u =>
        cases hr : evs F (r.map (·.2)) with
        | none => simp [ht, hr] at h
        | some us => simp [ht, hr] at h; subst h; simp [ha.eval ht, ih us hr]
  have hzip : (List.range len).zip vs = (vs.zipIdx 0).map fun p => (p.2, p.1) := by
    have key : ∀ (vs : List Value) (j : Nat), (List.range' j vs.length).zip vs = (vs.zipIdx j).map fun p => (p.2, p.1) := by
      intro vs
      induction vs with
      | nil => intro j; rfl
      | cons v vs ih => intro j; simp [List.range'_succ, ih (j + 1)]
    rw [← hlen, List.range_eq_range']; exact key vs 0
  have hfill : Instr.fill (fun i => some (i * sz, sz)) ((Array.range (len * sz)).map ((if len * sz = 0 then #[] else z.cells)[· % (if len * sz = 0 then #[] else z.cells).size]!)) (parts.map fun p => (p.1, a.eval p.2)) = some cs.toArray := by
    rw [hvals parts vs hvs, hi, hzip]
    have er : ∀ f : Nat → Value, (Array.range (len * sz)).map f = ((List.range (len * sz)).map f).toArray := fun f => by apply Array.ext'; simp
    rw [er]
    have := fill_flat hf 0 ((List.range (len * sz)).map ((if len * sz = 0 then #[] else z.cells)[· % (if len * sz = 0 then #[] else z.cells).size]!)) (by simp [hlen])
    simpa using this
  have hrun : (execOp a.eval ⟨dd, .buildSlice t len parts.toArray, T, pos, af, g⟩).run P w = .ok (.value (.slice (some ⟨w.heap.size, 0, none⟩) len len)) (w.alloc (.cells cs.toArray e)) := by
    have hs : ¬ (2 ^ 24 < len * sz) := by omega
    by_cases h0 : len * sz = 0
    · simp only [h0, ↓reduceIte] at hfill
      simp [execOp, Instr.buildSlice, run_underlying hu, runSz hz, h0, newRow]
      rw [show (Array.map (fun _ => (default : Value)) (Array.range 0)) = Array.map (fun x => (#[] : Array Value)[x % (#[] : Array Value).size]!) (Array.range 0) from rfl, hfill]
      simp
    · simp only [h0, ↓reduceIte] at hfill
      simp [execOp, Instr.buildSlice, run_underlying hu, runSz hz, h0, runZv hzv, newRow, hs]
      rw [hfill]
      simp
  unfold Oper.wp
  rw [hrun]
  exact hK (w.heap.size, undef) _ (by rw [ho]; exact hst.newBlk _ _)
/-- Arrays behind a pointer. -/
theorem EvW.idxArr {num : Nat} (hx : ev F x = some (ptr bl o)) (hy : ev F y = some (.int k a)) (hu : P.underlying t = some (.array num e)) (hz : szB P e = some sz) (h0 : 0 ≤ a) (h1 : a < num) :
    EvW P w0 S0 n F A ⟨dd, .indexAddr t x y, T, pos, af, g⟩ (ptr bl (o + a.toNat * sz)) :=
  .pure fun a' w ha _ => by
    simp [execOp, Instr.indexAt, ha.eval hx, ha.eval hy, asIntOf, run_underlying hu, h0, h1, runSz hz, add_at, Instr.sureAddr]
theorem EvW.ldBlk {q : Value} {U : TypeId} (hx : ev F x = some (ptr bl o)) (hs : scalB P t = true) (ht : Take (.blk bl cs.toArray U) A r) (hc : cs[o]? = some q) : EvW P w0 S0 n F A ⟨dd, .load t x, T, pos, af, g⟩ q :=
  .pure fun a' w ha hst => by simp [execOp, ha.eval hx, runLoadScal hs ((hst.blk ht).cell (o := o) (v := q) (by rw [List.getElem?_toArray]; exact hc))]
/-- A store into an element of a slice of the call's own. -/
theorem EffW.stOwn {A' : List HP} {ee : TypeId} {i off : Nat} (hx : ev F x = some (elemP sz v i off)) (hy : ev F y = some u) (hv : u.cells = ys.toArray) (hz : szB P t = some ys.length) (h1 : ys.all (·.oneCell') = true) (hpos : Nat.ble 1 ys.length = true) (ht : Take (.own ee sz v len cs) A r) (hl : i * sz + off + ys.length ≤ cs.length)
    (ht' : Take (.own ee sz v len (over cs (i * sz + off) ys)) A' r) : EffW P w0 S0 n F A A' ⟨none, .store t x y, T, pos, af, g⟩ undef := by
  refine ⟨fun Q K a w ha hst hK => ?_⟩
  obtain ⟨S, hs1, hs2, hs3⟩ := id hst
  obtain ⟨S1, S2, hu, hd, ⟨hcl, h⟩, h5⟩ := ht.star hs1
  rcases h with ⟨h3, h4, h6⟩ | ⟨b, cap, sp, h3, h4, h6, hS1, lo, hi, hh, hfr⟩
  · subst h4
    exfalso
    have := Nat.le_of_ble_eq_true hpos
    simp at hcl; subst hcl
    simp at hl; simp [hl] at this
  · subst h3
    have hle : (i * sz + off) + ys.length ≤ (cs ++ sp).length := by simp; omega
    have hx' : a.eval x = ptr b (i * sz + off) := by rw [ha.eval hx]; simp [elemP]
    have hrun : (execOp a.eval ⟨none, .store t x y, T, pos, af, g⟩).run P w = .ok .skip { w with heap := w.heap.setIfInBounds b (.cells (over (cs ++ sp) (i * sz + off) ys).toArray ee (lo, hi)) } := by
      simp [execOp, hx', ha.eval hy, runStoreAt hz hv h1 hh (by simpa using hfr) hle]
    have hov : over (cs ++ sp) (i * sz + off) ys = over cs (i * sz + off) ys ++ sp := by
      unfold over
      rw [List.take_append_of_le_length (by omega), List.drop_append_of_le_length (by omega)]
      simp
    unfold Oper.wp
    rw [hrun]
    have hA : St w0 S0 (.blk b (cs ++ sp).toArray ee :: r) w := ⟨S, ⟨S1, S2, hu, hd, ⟨hS1, lo, hi, hh, hfr⟩, h5⟩, hs2, hs3⟩
    have hupd : St w0 S0 (.blk b (over (cs ++ sp) (i * sz + off) ys).toArray ee :: r) { w with heap := w.heap.setIfInBounds b (.cells (over (cs ++ sp) (i * sz + off) ys).toArray ee (lo, hi)) } := by
      refine hA.write .head (fun lo' hi' h8 _ => ?_) (over_length hle)
      rw [hh] at h8
      injection h8 with h8
      cases h8
      rfl
    refine hK _ (hupd.mono fun S' w' hs' => ht'.unstar (star_mono hs' (fun S'' h => ?_) fun _ h => h))
    rw [hov] at h
    exact blk_own h (by rw [over_length hl]; exact hcl) h4 (by rw [← hov, over_length hle, h6])
/-- A call that gives new memory. -/
theorem NewW.call {f : FuncId} {args : List Operand} {ats : Array TypeId} {vals : List Value} {A1 A2 : List HP} {R : Value → List HP → Prop} {val : Nat × Value → Value} (post : Nat × Value → List HP) (hargs : evs F args = some vals)
    (hspec : ∀ w S, (sepL A1).sat S w → (∀ B, Sees w0 S0 B → Sees w S B) → (∀ B r, Take B A2 r → Sees w S B) → Tri P f vals.toArray w S R) (hcall : ∀ w, (callFunc f vals.toArray).run P w = .ok (.enter f vals.toArray) w) (ht : TakeL A1 A A2)
    (hR : ∀ v' A', R v' A' → ∃ p, v' = val p ∧ A' = post p) (hA : ∀ p w, St w0 S0 (post p ++ A2) w → St w0 S0 (out p) w) :
    NewW P w0 S0 n F A out ⟨dd, .call ⟨.value (.func f), args.toArray, ats⟩, T, pos, af, g⟩ val := by
  refine ⟨fun Q K a w ha hs hK => ?_⟩
  have hvals := evs_map ha args vals hargs
  obtain ⟨S, h1, h2, h3⟩ := hs
  obtain ⟨S1, S2, hu, hdis, h4, h5⟩ := ht.star h1
  have hsp := (hspec w S1 h4 (fun B hB => hB.down h2 h3 fun b hb => (hu b).2 (.inl hb)) (fun B r tB => by
    obtain ⟨S3, S4, hu', hd', h6, h7⟩ := tB.star h5
    exact ⟨S3, h6, fun b hb hb' => hdis b hb' ((hu' b).2 (.inl hb))⟩)).go
  have hrun : (execOp a.eval ⟨dd, .call ⟨.value (.func f), args.toArray, ats⟩, T, pos, af, g⟩).run P w = .ok (.enter f vals.toArray) w := by
    simp [execOp, resolve, Act.eval, Deferred.ofValue, invoke, hvals, hcall]
  unfold Oper.wp
  rw [hrun]
  refine hsp.mono ?_
  rintro e w' ⟨v', A', rfl, hRR, S', h6, h7, h8⟩
  obtain ⟨p, rfl, rfl⟩ := hR v' A' hRR
  refine hK p w' (hA p w' ?_)
  have hext : Ext S w w' := ⟨h7.os, h7.tape, h7.output, h7.size, fun b hb hnb => h7.keep b hb fun h => hnb ((hu b).2 (.inl h))⟩
  refine ⟨fun b => S' b ∨ S2 b, sepL_append ⟨S', S2, fun _ => Iff.rfl, fun b hb hb2 => ?_, h6, (sepL A2).loc h5 fun b hb => h7.keep b ((sepL A2).bnd h5 hb) fun h => hdis b h hb⟩, h2.step hext h3, fun b hb => ?_⟩
  · rcases h8 b hb with h | h
    · exact hdis b h hb2
    · have := (sepL A2).bnd h5 hb2; omega
  · rcases hb with hb | hb
    · rcases h8 b hb with h | h
      · exact h3 b ((hu b).2 (.inl h))
      · exact .inr (Nat.le_trans h2.size h)
    · exact h3 b ((hu b).2 (.inr hb))
theorem NewW.callA {f : FuncId} {args : List Operand} {ats : Array TypeId} {vals : List Value} (A1 : List HP) {A2 : List HP} {R : Value → List HP → Prop} {val : Nat × Value → Value} (post : Nat × Value → List HP) (hargs : evs F args = some vals) (hcall : ∀ w, (callFunc f vals.toArray).run P w = .ok (.enter f vals.toArray) w) (ht : TakeL A1 A A2)
    (hspec : ∀ w S, (sepL A1).sat S w → (∀ B, Sees w0 S0 B → Sees w S B) → (∀ B r, Take B A2 r → Sees w S B) → Tri P f vals.toArray w S R)
    (hR : ∀ v' A', R v' A' → ∃ p, v' = val p ∧ A' = post p) (hA : ∀ p w, St w0 S0 (post p ++ A2) w → St w0 S0 (out p) w) :
    NewW P w0 S0 n F A out ⟨dd, .call ⟨.value (.func f), args.toArray, ats⟩, T, pos, af, g⟩ val := .call post hargs hspec hcall ht hR hA
theorem EffW.callA {f : FuncId} {args : List Operand} {ats : Array TypeId} {vals : List Value} (A1 : List HP) {A' A2 A3 : List HP} {R : Value → List HP → Prop} (hargs : evs F args = some vals) (hcall : ∀ w, (callFunc f vals.toArray).run P w = .ok (.enter f vals.toArray) w) (ht : TakeL A1 A A2)
    (hspec : ∀ w S, (sepL A1).sat S w → (∀ B, Sees w0 S0 B → Sees w S B) → (∀ B r, Take B A2 r → Sees w S B) → Tri P f vals.toArray w S R)
    (hR : ∀ v' A', R v' A' → v' = v ∧ A' = A3) (hA : ∀ w, St w0 S0 (A3 ++ A2) w → St w0 S0 A' w) :
    EffW P w0 S0 n F A A' ⟨dd, .call ⟨.value (.func f), args.toArray, ats⟩, T, pos, af, g⟩ v := .callT hargs hspec hcall ht hR hA
/-- The same tokens in another order, the rest unknown; some may be let go. -/
inductive TakeT : List HP → List HP → Prop
  | tail {R : List HP} : TakeT R R
  | cons {x : HP} {xs A A' : List HP} : Take x A A' → TakeT xs A' → TakeT (x :: xs) A
  | drop {y : HP} {xs A : List HP} : TakeT xs A → TakeT xs (y :: A)
theorem TakeT.st {w0 w : World} {S0 : BSet} {xs A : List HP} (t : TakeT xs A) (h : St w0 S0 A w) : St w0 S0 xs w := by
  have key : ∀ {xs A : List HP}, TakeT xs A → ∃ D, ∀ S w, (sepL A).sat S w → (sepL (xs ++ D)).sat S w := by
    intro xs A t
    induction t with
    | tail => exact ⟨[], fun S w h => by rw [List.append_nil]; exact h⟩
    | cons t _ ih =>
      obtain ⟨D, hD⟩ := ih
      exact ⟨D, fun S w h => star_mono (t.star h) (fun _ h => h) fun _ h => hD _ _ h⟩
    | @drop y xs A _ ih =>
      obtain ⟨D, hD⟩ := ih
      exact ⟨y :: D, fun S w h => sepL_append (star_swap (star_mono h (fun _ h => h) fun _ h => sepL_unappend (hD _ _ h)))⟩
  obtain ⟨D, hD⟩ := key t
  refine h.turn fun S hs => ?_
  obtain ⟨S1, S2, hu, _, h1, _⟩ := sepL_unappend (hD S w hs)
  exact ⟨S1, h1, .refl _ _, fun b hb => .inl ((hu b).2 (.inl hb))⟩
theorem Tri.ofBelow {f : FuncId} {args : Array Value} {w : World} {S : BSet} (h : Calls P f args w fun e w' => e = .returned v ∧ Below w.heap.size w w') : Tri P f args w S fun u A => u = v ∧ A = [] :=
  ⟨h.mono fun e w' ⟨h1, h2⟩ => ⟨v, [], h1, ⟨rfl, rfl⟩, fun _ => False, fun _ h => h, ⟨h2.os, h2.tape, h2.output, h2.size, fun b hb _ => h2.block b hb⟩, fun _ h => h.elim⟩⟩
theorem Tri.ofSame {f : FuncId} {args : Array Value} {w : World} {S : BSet} (h : Calls P f args w fun e w' => e = .returned v ∧ w' = w) : Tri P f args w S fun u A => u = v ∧ A = [] :=
  .ofBelow (h.mono fun e w' ⟨h1, h2⟩ => ⟨h1, by subst h2; exact Below.refl _ _⟩)
end
end Go.BK
namespace Go.Proofs.Ytknclcjmfgdphaa
open Go.RowKit Go.BK
theorem join_empty (xs : List (List UInt8)) : Lib.join xs [] = xs.flatten := by /- 48 -/
  cases xs with
  | nil => rfl
  | cons x r => rw [Lib.join_cons]; simp [Lib.joinTail]
theorem join_spec (v : Value) (ps : List (List UInt8)) (w : World) (S : BSet) (hx : Sees w S (.row 1 v ps.length (ps.map str))) (hpl : ps.length ≤ 140737488355328) (hl : ps.flatten.length ≤ 140737488355328) :
    Tri Try.prog 48 #[v, str []] w S fun u A => u = str ps.flatten ∧ A = [] := by
  obtain ⟨R, hR, _⟩ := hx
  obtain ⟨hcl, h⟩ := id hR
  rcases h with ⟨p, cap, h1, h2, _⟩ | ⟨b, off, cap, cc, T, fr, h1, _, h3, h4, h5⟩
  · have hp : ps = [] := List.length_eq_zero_iff.1 h2
    subst hp
    subst h1
    exact Tri.ofSame (Try.strings_Join_none p cap _ w)
  · subst h1
    have hj := Try.strings_Join b off cap (ps.map fun l => ⟨l.toArray⟩) ⟨([] : List UInt8).toArray⟩ w (fun j x hj => by
      rw [List.getElem?_map] at hj
      cases hp : ps[j]? with
      | none => rw [hp] at hj; cases hj
      | some l =>
        rw [hp] at hj
        simp only [Option.map_some, Option.some.injEq] at hj
        subst hj
        exact row_cell (by rw [List.getElem?_map, hp]; rfl) R w hR) (lt_of_get h3) (by simpa using hpl) (by simpa using h5)
      (by rw [List.map_map]; simp only [Function.comp_def, List.map_id', join_empty]; exact hl)
    have e : (Lib.join ((ps.map fun l => (⟨l.toArray⟩ : ByteArray)).map (·.data.toList)) ((⟨([] : List UInt8).toArray⟩ : ByteArray).data.toList)) = ps.flatten := by
      rw [List.map_map]; simp only [Function.comp_def, List.map_id', join_empty]
    rw [e, List.length_map] at hj
    exact Tri.ofBelow hj
/-- A body's frame. -/
def head (b : List UInt8) : List UInt8 := be 2 b.length ++ b
def frame (b : List UInt8) : List UInt8 := head b ++ be 4 ((crc (head b)).toNat : Int)
def sealF (b : List UInt8) : List UInt8 × Int := if 1024 < b.length then ([], 2) else (frame b, 0)
theorem word16_spec (n : Int) (h0 : 0 ≤ n) (h1 : n < 65536) (w : World) (S : BSet) (hS : (sepL []).sat S w) :
    Tri Try.prog 65 #[i64 n] w S fun u A => u = str (be 2 n) ∧ A = [] := by
  have hm : [n].foldl (PW.num 2) (PW.init 2) = PW.mk 0 (be 2 n) 2 := num_fit 2 n h0 (by simpa using h1)
  refine Tri.enter (l := [i64 n]) Try.func65 rfl Try.ntmps65 rfl [(0, i64 n)] (subA rfl) hS ?_
  repeat first
    | (apply WL.q; exact rfl; exact rfl; exact rfl; (first | (apply EvW.move; exact rfl) | (apply EvW.assign; exact rfl) | (apply EvW.extract; exact rfl; exact rfl)))
    | refine WC.seq ?_ | refine WC.region ?_ | refine WL.nil ?_ | refine WE.next ?_ | refine WC.skip ?_ | refine WC.exit ?_ | refine WE.pass ?_ | refine WE.hit ?_ | refine WE.miss rfl ?_ | refine WE.out ?_ | refine WC.ret ?_ | refine WE.passRet ?_ | refine WE.outRet ?_ | refine WL.wanted rfl rfl rfl ?_
  try refine WL.wanted rfl rfl rfl ?_
  apply WL.callT
  · exact rfl
  · exact rfl
  · exact fun w1 S1 hS1 hs1 ho1 => new_spec 2 w1 S1 hS1
  · exact fun w => Try.call42 _ w
  · (focus ((repeat constructor); done))
  rintro _ _ ⟨b, rfl, rfl⟩
  first | refine WL.app4 ?_ | refine WL.app3 ?_ | refine WL.app2 ?_ | refine WL.app1 ?_ | refine WL.app0 ?_ | skip
  repeat first
    | (apply WL.q; exact rfl; exact rfl; exact rfl; (first | (apply EvW.move; exact rfl) | (apply EvW.assign; exact rfl) | (apply EvW.extract; exact rfl; exact rfl)))
    | refine WC.seq ?_ | refine WC.region ?_ | refine WL.nil ?_ | refine WE.next ?_ | refine WC.skip ?_ | refine WC.exit ?_ | refine WE.pass ?_ | refine WE.hit ?_ | refine WE.miss rfl ?_ | refine WE.out ?_ | refine WC.ret ?_ | refine WE.passRet ?_ | refine WE.outRet ?_ | refine WL.wanted rfl rfl rfl ?_
  try refine WL.wanted rfl rfl rfl ?_
  (apply WL.buildSlice; exact rfl; exact UndC.eq; exact SzC.eq; exact ZvC.eq; exact rfl; exact rfl; exact rfl; ((focus ((repeat (first | exact Flat.nil | (apply Flat.one; (first | exact rfl | assumption)) | (apply Flat.cons; exact rfl; exact rfl))); done))); exact rfl; exact rfl; intro c)
  try refine WL.wanted rfl rfl rfl ?_
  apply WL.callA ([.own 5 1 (Value.slice none 0 0) (PW.init 2).out.length ((PW.init 2).out.map byt), .blk b #[i64 (PW.init 2).e, Value.slice none 0 0, i64 (PW.init 2).lim] 130])
  · exact rfl
  · exact rfl
  · exact fun w => Try.call82 _ w
  · (focus ((repeat constructor); done))
  · exact fun w1 S1 hS1 hs1 ho1 => word_spec b _ _ (PW.init 2) [n] w1 S1 hS1 ((ho1 _ _ .head).blkRow rfl (fun k u h => by simpa using h) (by simp)) (init_fits 2 _ (by decide) (by simp)) (by simp)
  rintro _ _ ⟨rfl, v1, rfl⟩
  first | refine WL.app4 ?_ | refine WL.app3 ?_ | refine WL.app2 ?_ | refine WL.app1 ?_ | refine WL.app0 ?_ | skip
  rw [hm]
  repeat first
    | (apply WL.q; exact rfl; exact rfl; exact rfl; (first | (apply EvW.move; exact rfl) | (apply EvW.assign; exact rfl) | (apply EvW.extract; exact rfl; exact rfl)))
    | refine WC.seq ?_ | refine WC.region ?_ | refine WL.nil ?_ | refine WE.next ?_ | refine WC.skip ?_ | refine WC.exit ?_ | refine WE.pass ?_ | refine WE.hit ?_ | refine WE.miss rfl ?_ | refine WE.out ?_ | refine WC.ret ?_ | refine WE.passRet ?_ | refine WE.outRet ?_ | refine WL.wanted rfl rfl rfl ?_
  try refine WL.wanted rfl rfl rfl ?_
  apply WL.callA ([.own 5 1 (v1) (PW.mk 0 (be 2 n) 2).out.length ((PW.mk 0 (be 2 n) 2).out.map byt), .blk b #[i64 (PW.mk 0 (be 2 n) 2).e, v1, i64 (PW.mk 0 (be 2 n) 2).lim] 130])
  · exact rfl
  · exact rfl
  · exact fun w => Try.call45 _ w
  · (focus ((repeat constructor); done))
  · exact fun w1 S1 hS1 hs1 ho1 => done_spec b v1 (PW.mk 0 (be 2 n) 2) w1 S1 hS1
  rintro _ _ ⟨rfl, rfl⟩
  first | refine WL.app4 ?_ | refine WL.app3 ?_ | refine WL.app2 ?_ | refine WL.app1 ?_ | refine WL.app0 ?_ | skip
  rw [show (PW.mk 0 (be 2 n) 2).said = be 2 n from rfl]
  repeat first
    | (apply WL.q; exact rfl; exact rfl; exact rfl; (first | (apply EvW.move; exact rfl) | (apply EvW.assign; exact rfl) | (apply EvW.extract; exact rfl; exact rfl)))
    | refine WC.seq ?_ | refine WC.region ?_ | refine WL.nil ?_ | refine WE.next ?_ | refine WC.skip ?_ | refine WC.exit ?_ | refine WE.pass ?_ | refine WE.hit ?_ | refine WE.miss rfl ?_ | refine WE.out ?_ | refine WC.ret ?_ | refine WE.passRet ?_ | refine WE.outRet ?_ | refine WL.wanted rfl rfl rfl ?_
  refine WE.bare ?_
  refine WE.ret1 rfl rfl ?_
  exact ⟨rfl, rfl⟩
theorem seal_spec (v : Value) (ps : List (List UInt8)) (w : World) (S : BSet) (hS : (sepL []).sat S w) (hx : Sees w S (.row 1 v ps.length (ps.map str))) (hpl : ps.length ≤ 140737488355328) (hl : ps.flatten.length ≤ 140737488355328) :
    Tri Try.prog 46 #[v] w S fun u A => u = .tuple #[str (sealF ps.flatten).1, i64 (sealF ps.flatten).2] ∧ A = [] := by
  refine Tri.enter (l := [v]) Try.func46 rfl Try.ntmps46 rfl [(0, v)] (subA rfl) hS ?_
  repeat first
    | (apply WL.q; exact rfl; exact rfl; exact rfl; (first | (apply EvW.move; exact rfl) | (apply EvW.assign; exact rfl) | (apply EvW.extract; exact rfl; exact rfl) | (apply EvW.lenS; exact rfl; exact UndC.eq) | (apply EvW.cmpT; exact rfl; exact rfl; exact rfl; omega) | (apply EvW.cmpF; exact rfl; exact rfl; exact rfl; omega) | (apply EvW.cmp; exact rfl; exact rfl; exact rfl) | (apply EvW.sadd; exact rfl; exact rfl; (first | omega | (simp only [List.length_append, List.length_cons, List.length_nil]; omega)))))
    | refine WC.seq ?_ | refine WC.region ?_ | refine WL.nil ?_ | refine WE.next ?_ | refine WC.skip ?_ | refine WC.exit ?_ | refine WE.pass ?_ | refine WE.hit ?_ | refine WE.miss rfl ?_ | refine WE.out ?_ | refine WC.condT rfl ?_ | refine WC.condF rfl ?_ | refine WC.ret ?_ | refine WE.passRet ?_ | refine WE.outRet ?_ | refine WL.wanted rfl rfl rfl ?_
  try refine WL.wanted rfl rfl rfl ?_
  apply WL.callT
  · exact rfl
  · exact rfl
  · exact fun w1 S1 hS1 hs1 ho1 => join_spec v ps w1 S1 (hs1 _ hx) hpl hl
  · exact fun w => Try.call48 _ w
  · (focus ((repeat constructor); done))
  rintro _ _ ⟨rfl, rfl⟩
  first | refine WL.app4 ?_ | refine WL.app3 ?_ | refine WL.app2 ?_ | refine WL.app1 ?_ | refine WL.app0 ?_ | skip
  generalize ps.flatten = B at hl
  by_cases hlong : (B.length : Int) > 1024
  · have hF : sealF B = ([], 2) := by unfold sealF; rw [if_pos (by omega)]
    rw [hF]
    repeat first
      | (apply WL.q; exact rfl; exact rfl; exact rfl; (first | (apply EvW.move; exact rfl) | (apply EvW.assign; exact rfl) | (apply EvW.extract; exact rfl; exact rfl) | (apply EvW.lenS; exact rfl; exact UndC.eq) | (apply EvW.cmpT; exact rfl; exact rfl; exact rfl; omega) | (apply EvW.cmpF; exact rfl; exact rfl; exact rfl; omega) | (apply EvW.cmp; exact rfl; exact rfl; exact rfl) | (apply EvW.sadd; exact rfl; exact rfl; (first | omega | (simp only [List.length_append, List.length_cons, List.length_nil]; omega)))))
      | refine WC.seq ?_ | refine WC.region ?_ | refine WL.nil ?_ | refine WE.next ?_ | refine WC.skip ?_ | refine WC.exit ?_ | refine WE.pass ?_ | refine WE.hit ?_ | refine WE.miss rfl ?_ | refine WE.out ?_ | refine WC.condT rfl ?_ | refine WC.condF rfl ?_ | refine WC.ret ?_ | refine WE.passRet ?_ | refine WE.outRet ?_ | refine WL.wanted rfl rfl rfl ?_
    refine WE.ret2 rfl rfl rfl ?_
    exact ⟨rfl, rfl⟩
  · have hF : sealF B = (frame B, 0) := by unfold sealF; rw [if_neg (by omega)]
    rw [hF]
    have hc := (crc (head B)).isLt
    obtain ⟨k, hk⟩ : ∃ k : Int, ((crc (head B)).toNat : Int) = k := ⟨_, rfl⟩
    have hm : [k].foldl (PW.num 4) (PW.init 4) = PW.mk 0 (be 4 k) 4 := num_fit 4 k (by omega) (by simp; omega)
    have hhl : (be 2 (B.length : Int)).length = 2 := be_length _ _
    repeat first
      | (apply WL.q; exact rfl; exact rfl; exact rfl; (first | (apply EvW.move; exact rfl) | (apply EvW.assign; exact rfl) | (apply EvW.extract; exact rfl; exact rfl) | (apply EvW.lenS; exact rfl; exact UndC.eq) | (apply EvW.cmpT; exact rfl; exact rfl; exact rfl; omega) | (apply EvW.cmpF; exact rfl; exact rfl; exact rfl; omega) | (apply EvW.cmp; exact rfl; exact rfl; exact rfl) | (apply EvW.sadd; exact rfl; exact rfl; (first | omega | (simp only [List.length_append, List.length_cons, List.length_nil]; omega)))))
      | refine WC.seq ?_ | refine WC.region ?_ | refine WL.nil ?_ | refine WE.next ?_ | refine WC.skip ?_ | refine WC.exit ?_ | refine WE.pass ?_ | refine WE.hit ?_ | refine WE.miss rfl ?_ | refine WE.out ?_ | refine WC.condT rfl ?_ | refine WC.condF rfl ?_ | refine WC.ret ?_ | refine WE.passRet ?_ | refine WE.outRet ?_ | refine WL.wanted rfl rfl rfl ?_
    try refine WL.wanted rfl rfl rfl ?_
    apply WL.callT
    · exact rfl
    · exact rfl
    · exact fun w1 S1 hS1 hs1 ho1 => new_spec 4 w1 S1 hS1
    · exact fun w => Try.call42 _ w
    · (focus ((repeat constructor); done))
    rintro _ _ ⟨b, rfl, rfl⟩
    first | refine WL.app4 ?_ | refine WL.app3 ?_ | refine WL.app2 ?_ | refine WL.app1 ?_ | refine WL.app0 ?_ | skip
    repeat first
      | (apply WL.q; exact rfl; exact rfl; exact rfl; (first | (apply EvW.move; exact rfl) | (apply EvW.assign; exact rfl) | (apply EvW.extract; exact rfl; exact rfl) | (apply EvW.lenS; exact rfl; exact UndC.eq) | (apply EvW.cmpT; exact rfl; exact rfl; exact rfl; omega) | (apply EvW.cmpF; exact rfl; exact rfl; exact rfl; omega) | (apply EvW.cmp; exact rfl; exact rfl; exact rfl) | (apply EvW.sadd; exact rfl; exact rfl; (first | omega | (simp only [List.length_append, List.length_cons, List.length_nil]; omega)))))
      | refine WC.seq ?_ | refine WC.region ?_ | refine WL.nil ?_ | refine WE.next ?_ | refine WC.skip ?_ | refine WC.exit ?_ | refine WE.pass ?_ | refine WE.hit ?_ | refine WE.miss rfl ?_ | refine WE.out ?_ | refine WC.condT rfl ?_ | refine WC.condF rfl ?_ | refine WC.ret ?_ | refine WE.passRet ?_ | refine WE.outRet ?_ | refine WL.wanted rfl rfl rfl ?_
    try refine WL.wanted rfl rfl rfl ?_
    apply WL.callA ([])
    · exact rfl
    · exact rfl
    · exact fun w => Try.call65 _ w
    · (focus ((repeat constructor); done))
    · exact fun w1 S1 hS1 hs1 ho1 => word16_spec B.length (by omega) (by omega) w1 S1 hS1
    rintro _ _ ⟨rfl, rfl⟩
    first | refine WL.app4 ?_ | refine WL.app3 ?_ | refine WL.app2 ?_ | refine WL.app1 ?_ | refine WL.app0 ?_ | skip
    repeat first
      | (apply WL.q; exact rfl; exact rfl; exact rfl; (first | (apply EvW.move; exact rfl) | (apply EvW.assign; exact rfl) | (apply EvW.extract; exact rfl; exact rfl) | (apply EvW.lenS; exact rfl; exact UndC.eq) | (apply EvW.cmpT; exact rfl; exact rfl; exact rfl; omega) | (apply EvW.cmpF; exact rfl; exact rfl; exact rfl; omega) | (apply EvW.cmp; exact rfl; exact rfl; exact rfl) | (apply EvW.sadd; exact rfl; exact rfl; (first | omega | (simp only [List.length_append, List.length_cons, List.length_nil]; omega)))))
      | refine WC.seq ?_ | refine WC.region ?_ | refine WL.nil ?_ | refine WE.next ?_ | refine WC.skip ?_ | refine WC.exit ?_ | refine WE.pass ?_ | refine WE.hit ?_ | refine WE.miss rfl ?_ | refine WE.out ?_ | refine WC.condT rfl ?_ | refine WC.condF rfl ?_ | refine WC.ret ?_ | refine WE.passRet ?_ | refine WE.outRet ?_ | refine WL.wanted rfl rfl rfl ?_
    try refine WL.wanted rfl rfl rfl ?_
    (apply WL.buildSlice; exact rfl; exact UndC.eq; exact SzC.eq; exact ZvC.eq; exact rfl; exact rfl; exact rfl; ((focus ((repeat (first | exact Flat.nil | (apply Flat.one; (first | exact rfl | assumption)) | (apply Flat.cons; exact rfl; exact rfl))); done))); exact rfl; exact rfl; intro c)
    try refine WL.wanted rfl rfl rfl ?_
    apply WL.callA ([])
    · exact rfl
    · exact rfl
    · exact fun w => Try.call66 _ w
    · (focus ((repeat constructor); done))
    · exact fun w1 S1 hS1 hs1 ho1 => sum_spec _ [be 2 B.length, B] w1 S1 hS1 ((ho1 _ _ .head).blkRow rfl (fun k u h => by simpa using h) (by simp)) (by simp) (by intro p hp; simp only [List.mem_cons, List.not_mem_nil, or_false] at hp; rcases hp with rfl | rfl <;> omega)
    rintro _ _ ⟨rfl, rfl⟩
    first | refine WL.app4 ?_ | refine WL.app3 ?_ | refine WL.app2 ?_ | refine WL.app1 ?_ | refine WL.app0 ?_ | skip
    rw [show [be 2 (B.length : Int), B].flatten = head B by simp [head], hk]
    repeat first
      | (apply WL.q; exact rfl; exact rfl; exact rfl; (first | (apply EvW.move; exact rfl) | (apply EvW.assign; exact rfl) | (apply EvW.extract; exact rfl; exact rfl) | (apply EvW.lenS; exact rfl; exact UndC.eq) | (apply EvW.cmpT; exact rfl; exact rfl; exact rfl; omega) | (apply EvW.cmpF; exact rfl; exact rfl; exact rfl; omega) | (apply EvW.cmp; exact rfl; exact rfl; exact rfl) | (apply EvW.sadd; exact rfl; exact rfl; (first | omega | (simp only [List.length_append, List.length_cons, List.length_nil]; omega)))))
      | refine WC.seq ?_ | refine WC.region ?_ | refine WL.nil ?_ | refine WE.next ?_ | refine WC.skip ?_ | refine WC.exit ?_ | refine WE.pass ?_ | refine WE.hit ?_ | refine WE.miss rfl ?_ | refine WE.out ?_ | refine WC.condT rfl ?_ | refine WC.condF rfl ?_ | refine WC.ret ?_ | refine WE.passRet ?_ | refine WE.outRet ?_ | refine WL.wanted rfl rfl rfl ?_
    try refine WL.wanted rfl rfl rfl ?_
    (apply WL.buildSlice; exact rfl; exact UndC.eq; exact SzC.eq; exact ZvC.eq; exact rfl; exact rfl; exact rfl; ((focus ((repeat (first | exact Flat.nil | (apply Flat.one; (first | exact rfl | assumption)) | (apply Flat.cons; exact rfl; exact rfl))); done))); exact rfl; exact rfl; intro c2)
    try refine WL.wanted rfl rfl rfl ?_
    apply WL.callA ([.own 5 1 (Value.slice none 0 0) (PW.init 4).out.length ((PW.init 4).out.map byt), .blk b #[i64 (PW.init 4).e, Value.slice none 0 0, i64 (PW.init 4).lim] 130])
    · exact rfl
    · exact rfl
    · exact fun w => Try.call44 _ w
    · (focus ((repeat constructor); done))
    · exact fun w1 S1 hS1 hs1 ho1 => long_spec b _ _ (PW.init 4) [k] w1 S1 hS1 ((ho1 _ _ .head).blkRow rfl (fun k u h => by simpa using h) (by simp)) (init_fits 4 _ (by decide) (by simp)) (by simp)
    rintro _ _ ⟨rfl, v1, rfl⟩
    first | refine WL.app4 ?_ | refine WL.app3 ?_ | refine WL.app2 ?_ | refine WL.app1 ?_ | refine WL.app0 ?_ | skip
    rw [hm]
    repeat first
      | (apply WL.q; exact rfl; exact rfl; exact rfl; (first | (apply EvW.move; exact rfl) | (apply EvW.assign; exact rfl) | (apply EvW.extract; exact rfl; exact rfl) | (apply EvW.lenS; exact rfl; exact UndC.eq) | (apply EvW.cmpT; exact rfl; exact rfl; exact rfl; omega) | (apply EvW.cmpF; exact rfl; exact rfl; exact rfl; omega) | (apply EvW.cmp; exact rfl; exact rfl; exact rfl) | (apply EvW.sadd; exact rfl; exact rfl; (first | omega | (simp only [List.length_append, List.length_cons, List.length_nil]; omega)))))
      | refine WC.seq ?_ | refine WC.region ?_ | refine WL.nil ?_ | refine WE.next ?_ | refine WC.skip ?_ | refine WC.exit ?_ | refine WE.pass ?_ | refine WE.hit ?_ | refine WE.miss rfl ?_ | refine WE.out ?_ | refine WC.condT rfl ?_ | refine WC.condF rfl ?_ | refine WC.ret ?_ | refine WE.passRet ?_ | refine WE.outRet ?_ | refine WL.wanted rfl rfl rfl ?_
    try refine WL.wanted rfl rfl rfl ?_
    apply WL.callA ([.own 5 1 (v1) (PW.mk 0 (be 4 k) 4).out.length ((PW.mk 0 (be 4 k) 4).out.map byt), .blk b #[i64 (PW.mk 0 (be 4 k) 4).e, v1, i64 (PW.mk 0 (be 4 k) 4).lim] 130])
    · exact rfl
    · exact rfl
    · exact fun w => Try.call45 _ w
    · (focus ((repeat constructor); done))
    · exact fun w1 S1 hS1 hs1 ho1 => done_spec b v1 (PW.mk 0 (be 4 k) 4) w1 S1 hS1
    rintro _ _ ⟨rfl, rfl⟩
    first | refine WL.app4 ?_ | refine WL.app3 ?_ | refine WL.app2 ?_ | refine WL.app1 ?_ | refine WL.app0 ?_ | skip
    rw [show (PW.mk 0 (be 4 k) 4).said = be 4 k from rfl]
    have h4 := be_length 4 k
    repeat first
      | (apply WL.q; exact rfl; exact rfl; exact rfl; (first | (apply EvW.move; exact rfl) | (apply EvW.assign; exact rfl) | (apply EvW.extract; exact rfl; exact rfl) | (apply EvW.lenS; exact rfl; exact UndC.eq) | (apply EvW.cmpT; exact rfl; exact rfl; exact rfl; omega) | (apply EvW.cmpF; exact rfl; exact rfl; exact rfl; omega) | (apply EvW.cmp; exact rfl; exact rfl; exact rfl) | (apply EvW.sadd; exact rfl; exact rfl; (first | omega | (simp only [List.length_append, List.length_cons, List.length_nil]; omega)))))
      | refine WC.seq ?_ | refine WC.region ?_ | refine WL.nil ?_ | refine WE.next ?_ | refine WC.skip ?_ | refine WC.exit ?_ | refine WE.pass ?_ | refine WE.hit ?_ | refine WE.miss rfl ?_ | refine WE.out ?_ | refine WC.condT rfl ?_ | refine WC.condF rfl ?_ | refine WC.ret ?_ | refine WE.passRet ?_ | refine WE.outRet ?_ | refine WL.wanted rfl rfl rfl ?_
    refine WE.bare ?_
    refine WE.ret2 rfl rfl rfl ?_
    exact ⟨by unfold frame; rw [hk]; rfl, rfl⟩
/-- How long the frame at the beginning is. -/
def cutF (l : List UInt8) : Int × Int := if l.length < 6 then (0, 1) else if numOf (l.take 2) > 1024 then (0, 2) else if (l.length : Int) < numOf (l.take 2) + 6 then (0, 1) else (numOf (l.take 2) + 6, 0)
theorem cut_spec (l : List UInt8) (w : World) (S : BSet) (hS : (sepL []).sat S w) (hl : l.length ≤ 1152921504606846976) :
    Tri Try.prog 85 #[str l] w S fun u A => u = .tuple #[i64 (cutF l).1, i64 (cutF l).2] ∧ A = [] := by
  refine Tri.enter (l := [str l]) Try.func85 rfl Try.ntmps85 rfl [(0, str l)] (subA rfl) hS ?_
  by_cases h6 : (l.length : Int) < 6
  · have hF : cutF l = (0, 1) := by unfold cutF; rw [if_pos (by omega)]
    rw [hF]
    repeat first
      | (apply WL.q; exact rfl; exact rfl; exact rfl; (first | (apply EvW.move; exact rfl) | (apply EvW.assign; exact rfl) | (apply EvW.lenS; exact rfl; exact UndC.eq) | (apply EvW.cmpT; exact rfl; exact rfl; exact rfl; omega) | (apply EvW.cmpF; exact rfl; exact rfl; exact rfl; omega) | (apply EvW.cmp; exact rfl; exact rfl; exact rfl) | (apply EvW.arN; exact rfl; exact rfl; exact rfl; refine i64_in ?_ ?_ <;> omega) | (apply EvW.ar; exact rfl; exact rfl; exact rfl)))
      | refine WC.seq ?_ | refine WC.region ?_ | refine WL.nil ?_ | refine WE.next ?_ | refine WC.block ?_ | refine WC.skip ?_ | refine WC.exit ?_ | refine WE.pass ?_ | refine WE.hit ?_ | refine WE.miss rfl ?_ | refine WE.out ?_ | refine WC.condT rfl ?_ | refine WC.condF rfl ?_ | refine WC.ret ?_ | refine WE.passRet ?_ | refine WE.outRet ?_ | refine WL.wanted rfl rfl rfl ?_
    refine WE.ret2 rfl rfl rfl ?_
    exact ⟨rfl, rfl⟩
  · have hnum : (PR.mk 0 l).num 2 = (numOf (l.take 2), PR.mk 0 (l.drop 2)) := num_good _ 2 rfl (by simp only []; omega)
    have hbd := numOf_bd (l.take 2)
    rw [show (l.take 2).length = 2 by simp; omega] at hbd
    have hF : cutF l = if numOf (l.take 2) > 1024 then (0, 2) else if (l.length : Int) < numOf (l.take 2) + 6 then (0, 1) else (numOf (l.take 2) + 6, 0) := by unfold cutF; rw [if_neg (by omega)]
    rw [hF]
    repeat first
      | (apply WL.q; exact rfl; exact rfl; exact rfl; (first | (apply EvW.move; exact rfl) | (apply EvW.assign; exact rfl) | (apply EvW.lenS; exact rfl; exact UndC.eq) | (apply EvW.cmpT; exact rfl; exact rfl; exact rfl; omega) | (apply EvW.cmpF; exact rfl; exact rfl; exact rfl; omega) | (apply EvW.cmp; exact rfl; exact rfl; exact rfl) | (apply EvW.arN; exact rfl; exact rfl; exact rfl; refine i64_in ?_ ?_ <;> omega) | (apply EvW.ar; exact rfl; exact rfl; exact rfl)))
      | refine WC.seq ?_ | refine WC.region ?_ | refine WL.nil ?_ | refine WE.next ?_ | refine WC.block ?_ | refine WC.skip ?_ | refine WC.exit ?_ | refine WE.pass ?_ | refine WE.hit ?_ | refine WE.miss rfl ?_ | refine WE.out ?_ | refine WC.condT rfl ?_ | refine WC.condF rfl ?_ | refine WC.ret ?_ | refine WE.passRet ?_ | refine WE.outRet ?_ | refine WL.wanted rfl rfl rfl ?_
    try refine WL.wanted rfl rfl rfl ?_
    apply WL.callT
    · exact rfl
    · exact rfl
    · exact fun w1 S1 hS1 hs1 ho1 => read_spec l w1 S1 hS1
    · exact fun w => Try.call74 _ w
    · (focus ((repeat constructor); done))
    rintro _ _ ⟨b, rfl, rfl⟩
    first | refine WL.app4 ?_ | refine WL.app3 ?_ | refine WL.app2 ?_ | refine WL.app1 ?_ | refine WL.app0 ?_ | skip
    try refine WL.wanted rfl rfl rfl ?_
    apply WL.callA ([.blk b #[i64 (PR.mk 0 l).e, str (PR.mk 0 l).s] 155])
    · exact rfl
    · exact rfl
    · exact fun w => Try.call88 _ w
    · (focus ((repeat constructor); done))
    · exact fun w1 S1 hS1 hs1 ho1 => rword_spec b (PR.mk 0 l) w1 S1 hS1 hl
    rintro _ _ ⟨rfl, rfl⟩
    first | refine WL.app4 ?_ | refine WL.app3 ?_ | refine WL.app2 ?_ | refine WL.app1 ?_ | refine WL.app0 ?_ | skip
    rw [hnum]
    generalize numOf (l.take 2) = N at hbd
    by_cases h1 : N > 1024
    · rw [if_pos h1]
      repeat first
        | (apply WL.q; exact rfl; exact rfl; exact rfl; (first | (apply EvW.move; exact rfl) | (apply EvW.assign; exact rfl) | (apply EvW.lenS; exact rfl; exact UndC.eq) | (apply EvW.cmpT; exact rfl; exact rfl; exact rfl; omega) | (apply EvW.cmpF; exact rfl; exact rfl; exact rfl; omega) | (apply EvW.cmp; exact rfl; exact rfl; exact rfl) | (apply EvW.arN; exact rfl; exact rfl; exact rfl; refine i64_in ?_ ?_ <;> omega) | (apply EvW.ar; exact rfl; exact rfl; exact rfl)))
        | refine WC.seq ?_ | refine WC.region ?_ | refine WL.nil ?_ | refine WE.next ?_ | refine WC.block ?_ | refine WC.skip ?_ | refine WC.exit ?_ | refine WE.pass ?_ | refine WE.hit ?_ | refine WE.miss rfl ?_ | refine WE.out ?_ | refine WC.condT rfl ?_ | refine WC.condF rfl ?_ | refine WC.ret ?_ | refine WE.passRet ?_ | refine WE.outRet ?_ | refine WL.wanted rfl rfl rfl ?_
      refine WE.bare ?_
      refine WE.ret2 rfl rfl rfl ?_
      exact ⟨rfl, rfl⟩
    · rw [if_neg h1]
      by_cases h2 : (l.length : Int) < N + 6
      · rw [if_pos h2]
        repeat first
          | (apply WL.q; exact rfl; exact rfl; exact rfl; (first | (apply EvW.move; exact rfl) | (apply EvW.assign; exact rfl) | (apply EvW.lenS; exact rfl; exact UndC.eq) | (apply EvW.cmpT; exact rfl; exact rfl; exact rfl; omega) | (apply EvW.cmpF; exact rfl; exact rfl; exact rfl; omega) | (apply EvW.cmp; exact rfl; exact rfl; exact rfl) | (apply EvW.arN; exact rfl; exact rfl; exact rfl; refine i64_in ?_ ?_ <;> omega) | (apply EvW.ar; exact rfl; exact rfl; exact rfl)))
          | refine WC.seq ?_ | refine WC.region ?_ | refine WL.nil ?_ | refine WE.next ?_ | refine WC.block ?_ | refine WC.skip ?_ | refine WC.exit ?_ | refine WE.pass ?_ | refine WE.hit ?_ | refine WE.miss rfl ?_ | refine WE.out ?_ | refine WC.condT rfl ?_ | refine WC.condF rfl ?_ | refine WC.ret ?_ | refine WE.passRet ?_ | refine WE.outRet ?_ | refine WL.wanted rfl rfl rfl ?_
        refine WE.bare ?_
        refine WE.ret2 rfl rfl rfl ?_
        exact ⟨rfl, rfl⟩
      · rw [if_neg h2]
        repeat first
          | (apply WL.q; exact rfl; exact rfl; exact rfl; (first | (apply EvW.move; exact rfl) | (apply EvW.assign; exact rfl) | (apply EvW.lenS; exact rfl; exact UndC.eq) | (apply EvW.cmpT; exact rfl; exact rfl; exact rfl; omega) | (apply EvW.cmpF; exact rfl; exact rfl; exact rfl; omega) | (apply EvW.cmp; exact rfl; exact rfl; exact rfl) | (apply EvW.arN; exact rfl; exact rfl; exact rfl; refine i64_in ?_ ?_ <;> omega) | (apply EvW.ar; exact rfl; exact rfl; exact rfl)))
          | refine WC.seq ?_ | refine WC.region ?_ | refine WL.nil ?_ | refine WE.next ?_ | refine WC.block ?_ | refine WC.skip ?_ | refine WC.exit ?_ | refine WE.pass ?_ | refine WE.hit ?_ | refine WE.miss rfl ?_ | refine WE.out ?_ | refine WC.condT rfl ?_ | refine WC.condF rfl ?_ | refine WC.ret ?_ | refine WE.passRet ?_ | refine WE.outRet ?_ | refine WL.wanted rfl rfl rfl ?_
        refine WE.bare ?_
        refine WE.ret2 rfl rfl rfl ?_
        exact ⟨rfl, rfl⟩
end Go.Proofs.Ytknclcjmfgdphaa
namespace Go.Proofs.Ytknclcjmfgdphaa
open Go.RowKit Go.BK
/-- What a frame says, if its sum is right. -/
def bodyF (f : List UInt8) (a : Int) : List UInt8 × Int × Int := if numOf (f.drop (f.length - 4)) ≠ (crc (f.take (f.length - 4))).toNat then ([], 0, 4) else ((f.take (f.length - 4)).drop 2, a + f.length, 0)
def nextF (l : List UInt8) (a : Int) : List UInt8 × Int × Int :=
  if a < 0 ∨ a > l.length then ([], 0, 20) else if (cutF (l.drop a.toNat)).2 ≠ 0 then ([], 0, (cutF (l.drop a.toNat)).2) else bodyF ((l.drop a.toNat).take (cutF (l.drop a.toNat)).1.toNat) a
theorem cutF_cases (l : List UInt8) : (cutF l = (0, 1)) ∨ (cutF l = (0, 2)) ∨ ∃ k : Nat, cutF l = ((k : Int), 0) ∧ 6 ≤ k ∧ k ≤ l.length ∧ k ≤ 1030 ∧ numOf (l.take 2) = (k : Int) - 6 := by
  unfold cutF
  split
  · exact .inl rfl
  · split
    · exact .inr (.inl rfl)
    · split
      · exact .inl rfl
      · have h := numOf_bd (l.take 2)
        exact .inr (.inr ⟨(numOf (l.take 2) + 6).toNat, by rw [Int.toNat_of_nonneg (by omega)], by omega, by omega, by omega, by omega⟩)
theorem next_spec (l : List UInt8) (a : Int) (w : World) (S : BSet) (hS : (sepL []).sat S w) (hl : l.length ≤ 1152921504606846976) :
    Tri Try.prog 73 #[str l, i64 a] w S fun u A => u = .tuple #[str (nextF l a).1, i64 (nextF l a).2.1, i64 (nextF l a).2.2] ∧ A = [] := by
  refine Tri.enter (l := [str l, i64 a]) Try.func73 rfl Try.ntmps73 rfl [(0, str l), (1, i64 a)] (subA rfl) hS ?_
  by_cases ha0 : a < 0
  · have hF : nextF l a = ([], 0, 20) := by unfold nextF; rw [if_pos (.inl ha0)]
    rw [hF]
    repeat first
      | (apply WL.q; exact rfl; exact rfl; exact rfl; (first | (apply EvW.move; exact rfl) | (apply EvW.assign; exact rfl) | (apply EvW.cmpT; exact rfl; exact rfl; exact rfl; omega) | (apply EvW.pickT; exact rfl; exact rfl)))
      | refine WC.seq ?_ | refine WC.region ?_ | refine WL.nil ?_ | refine WE.next ?_ | refine WC.condT rfl ?_ | refine WC.ret ?_ | refine WE.passRet ?_ | refine WL.unwanted rfl rfl rfl rfl ?_
    refine WE.retN (l := [4, 5, 6]) rfl rfl rfl ?_
    exact ⟨rfl, rfl⟩
  · by_cases ha1 : a > l.length
    · have hF : nextF l a = ([], 0, 20) := by unfold nextF; rw [if_pos (.inr ha1)]
      rw [hF]
      repeat first
        | (apply WL.q; exact rfl; exact rfl; exact rfl; (first | (apply EvW.move; exact rfl) | (apply EvW.assign; exact rfl) | (apply EvW.lenS; exact rfl; exact UndC.eq) | (apply EvW.cmpT; exact rfl; exact rfl; exact rfl; omega) | (apply EvW.cmpF; exact rfl; exact rfl; exact rfl; omega) | (apply EvW.pickF; exact rfl; exact rfl)))
        | refine WC.seq ?_ | refine WC.region ?_ | refine WL.nil ?_ | refine WE.next ?_ | refine WC.condT rfl ?_ | refine WC.ret ?_ | refine WE.passRet ?_ | refine WL.wanted rfl rfl rfl ?_
      refine WE.retN (l := [4, 5, 6]) rfl rfl rfl ?_
      exact ⟨rfl, rfl⟩
    · have hF : nextF l a = if (cutF (l.drop a.toNat)).2 ≠ 0 then ([], 0, (cutF (l.drop a.toNat)).2) else bodyF ((l.drop a.toNat).take (cutF (l.drop a.toNat)).1.toNat) a := by
        unfold nextF; rw [if_neg (by omega)]
      rw [hF]
      have hdl : (l.drop a.toNat).length = l.length - a.toNat := by simp
      repeat first
        | (apply WL.q; exact rfl; exact rfl; exact rfl; (first | (apply EvW.move; exact rfl) | (apply EvW.assign; exact rfl) | (apply EvW.lenS; exact rfl; exact UndC.eq) | (apply EvW.cmpF; exact rfl; exact rfl; exact rfl; omega) | (apply EvW.pickF; exact rfl; exact rfl) | (apply EvW.sliceS_lo; exact rfl; exact UndC.eq; exact rfl; omega; omega)))
        | refine WC.seq ?_ | refine WC.region ?_ | refine WL.nil ?_ | refine WE.next ?_ | refine WC.skip ?_ | refine WC.condF rfl ?_ | refine WL.wanted rfl rfl rfl ?_
      try refine WL.wanted rfl rfl rfl ?_
      apply WL.callT
      · exact rfl
      · exact rfl
      · exact fun w1 S1 hS1 hs1 ho1 => cut_spec (l.drop a.toNat) w1 S1 hS1 (by omega)
      · exact fun w => Try.call85 _ w
      · (focus ((repeat constructor); done))
      rintro _ _ ⟨rfl, rfl⟩
      first | refine WL.app4 ?_ | refine WL.app3 ?_ | refine WL.app2 ?_ | refine WL.app1 ?_ | refine WL.app0 ?_ | skip
      have hcc := cutF_cases (l.drop a.toNat)
      by_cases he : (cutF (l.drop a.toNat)).2 = 0
      · rcases hcc with hc | hc | ⟨k, hc, h6, hk, _, _⟩
        · rw [hc] at he; cases he
        · rw [hc] at he; cases he
        · rw [hc]
          rw [if_neg (by simp)]
          repeat first
            | (apply WL.q; exact rfl; exact rfl; exact rfl; (first | (apply EvW.move; exact rfl) | (apply EvW.assign; exact rfl) | (apply EvW.extract; exact rfl; exact rfl) | (apply EvW.cmpF; exact rfl; exact rfl; exact rfl; omega) | (apply EvW.arN; exact rfl; exact rfl; exact rfl; refine i64_in ?_ ?_ <;> omega) | (apply EvW.sliceS; exact rfl; exact UndC.eq; exact rfl; exact rfl; omega; omega; omega)))
            | refine WC.seq ?_ | refine WC.region ?_ | refine WL.nil ?_ | refine WE.next ?_ | refine WC.skip ?_ | refine WC.condF rfl ?_
          have htk : (l.drop a.toNat).take (k : Int).toNat = (l.take (a + k).toNat).drop a.toNat := by
            rw [show (a + (k : Int)).toNat = a.toNat + k by omega, List.drop_take, Nat.add_sub_cancel_left]; rfl
          rw [htk]
          have hfl : ((l.take (a + k).toNat).drop a.toNat).length = k := by rw [← htk]; simp; omega
          generalize (l.take (a + k).toNat).drop a.toNat = f at hfl
          repeat refine WC.seq ?_
          refine WC.keep (xs := []) (by repeat constructor) ?_
          apply WC.par _ (fun c : Ch => [.blk (c 4).1 #[i64 (PR.mk 0 (f.drop ((k : Int) - 4).toNat)).e, str (PR.mk 0 (f.drop ((k : Int) - 4).toNat)).s] 155, .blk (c 4).1 #[i64 (((PR.mk 0 (f.drop ((k : Int) - 4).toNat)).num 4).2).e, str (((PR.mk 0 (f.drop ((k : Int) - 4).toNat)).num 4).2).s] 155, .blk (c 10).1 #[str (f.take ((k : Int) - 4).toNat)] 9]) [some 4, some 5, some 10] [some 5, none, none] [(4, fun x => ptr x.1 0), (10, fun x => .slice (some ⟨x.1, 0, none⟩) 1 1)] Try.mixed
          · (focus ((repeat (first | exact Restr.nil | (apply Restr.keep; exact rfl; exact rfl) | (apply Restr.drop; exact rfl))); done))
          · intro c; exact (by repeat constructor)
          · exact rfl
          · decide +kernel
          · decide +kernel
          · intro c
            (apply Par.quiet _ [false, false, false]; exact rfl; decide +kernel; exact rfl; intro R; refine ⟨_, (by repeat constructor), ?_⟩;
                 (first | (apply EvW.move; exact rfl)))
            (apply Par.quiet _ [false, false, false]; exact rfl; decide +kernel; exact rfl; intro R; refine ⟨_, (by repeat constructor), ?_⟩;
                 (first | (apply EvW.move; exact rfl)))
            (apply Par.quiet _ [false, false, false]; exact rfl; decide +kernel; exact rfl; intro R; refine ⟨_, (by repeat constructor), ?_⟩;
                 (first | (apply EvW.arN; exact rfl; exact rfl; exact rfl; refine i64_in ?_ ?_ <;> omega)))
            (apply Par.quiet _ [false, false, false]; exact rfl; decide +kernel; exact rfl; intro R; refine ⟨_, (by repeat constructor), ?_⟩;
                 (first | (apply EvW.sliceS_lo; exact rfl; exact UndC.eq; exact rfl; omega; omega)))
            apply Par.new _ [false, false, false] [true, false, false] [false, false, false]
            · exact rfl
            · exact rfl
            · decide +kernel
            · intro R
              refine ⟨_, _, _, (by repeat constructor), (by repeat constructor), (fun x => (by repeat constructor)), ?_⟩
              apply NewW.call (fun x => [.blk x.1 #[i64 (PR.mk 0 (f.drop ((k : Int) - 4).toNat)).e, str (PR.mk 0 (f.drop ((k : Int) - 4).toNat)).s] 155])
              · exact rfl
              · exact fun w1 S1 hS1 hs1 ho1 => read_spec (f.drop ((k : Int) - 4).toNat) w1 S1 hS1
              · exact fun w => Try.call74 _ w
              · (focus ((repeat constructor); done))
              · rintro _ _ ⟨b, rfl, rfl⟩; exact ⟨(b, undef), rfl, rfl⟩
              · exact fun x _ h => TakeT.st (by (focus ((repeat (first | exact TakeT.tail | apply TakeT.cons | exact Take.head | apply Take.tail | apply TakeT.drop)); done))) h
            apply Par.eff _ [true, false, false] [false, true, false] [false, false, false]
            · exact rfl
            · exact rfl
            · decide +kernel
            · intro R
              refine ⟨_, _, _, (by repeat constructor), (by repeat constructor), (by repeat constructor), ?_⟩
              apply EffW.callT
              · exact rfl
              · exact fun w1 S1 hS1 hs1 ho1 => rlong_spec _ (PR.mk 0 (f.drop ((k : Int) - 4).toNat)) w1 S1 hS1 (by simp; omega)
              · exact fun w => Try.call76 _ w
              · (focus ((repeat constructor); done))
              · exact fun _ _ h => h
              · exact fun _ h => TakeT.st (by (focus ((repeat (first | exact TakeT.tail | apply TakeT.cons | exact Take.head | apply Take.tail | apply TakeT.drop)); done))) h
            (apply Par.quiet _ [false, false, false]; exact rfl; decide +kernel; exact rfl; intro R; refine ⟨_, (by repeat constructor), ?_⟩;
                 (first | (apply EvW.move; exact rfl)))
            (apply Par.quiet _ [false, false, false]; exact rfl; decide +kernel; exact rfl; intro R; refine ⟨_, (by repeat constructor), ?_⟩;
                 (first | (apply EvW.move; exact rfl)))
            (apply Par.quiet _ [false, false, false]; exact rfl; decide +kernel; exact rfl; intro R; refine ⟨_, (by repeat constructor), ?_⟩;
                 (first | (apply EvW.arN; exact rfl; exact rfl; exact rfl; refine i64_in ?_ ?_ <;> omega)))
            (apply Par.quiet _ [false, false, false]; exact rfl; decide +kernel; exact rfl; intro R; refine ⟨_, (by repeat constructor), ?_⟩;
                 (first | (apply EvW.sliceS_hi; exact rfl; exact UndC.eq; exact rfl; omega; omega)))
            (apply Par.new _ [false, false, false] [false, false, true] [false, false, false]; exact rfl; exact rfl; decide +kernel; intro R; refine ⟨_, _, _, (by repeat constructor), (by repeat constructor), (fun x => (by repeat constructor)), ?_⟩; (apply NewW.buildSlice; exact UndC.eq; exact SzC.eq; exact ZvC.eq; exact rfl; exact rfl; exact rfl; (focus ((repeat (first | exact Flat.nil | (apply Flat.one; (first | exact rfl | assumption)) | (apply Flat.cons; exact rfl; exact rfl))); done)); exact rfl; exact rfl; exact fun _ => rfl))
            apply Par.quiet _ [false, true, true]
            · exact rfl
            · decide +kernel
            · exact rfl
            · intro R
              refine ⟨_, (by repeat constructor), ?_⟩
              apply EvW.callK ([])
              · exact rfl
              · exact fun w => Try.call66 _ w
              · (focus ((repeat constructor); done))
              · exact fun w1 S1 hS1 hs1 ho1 => sum_spec _ [f.take ((k : Int) - 4).toNat] w1 S1 hS1 ((ho1 _ _ (by repeat constructor)).blkRow rfl (fun k u h => by simpa using h) (by simp)) (by simp) (by intro p hp; simp only [List.mem_singleton] at hp; rw [hp]; simp; omega)
              · exact fun _ _ h => h
            (apply Par.quiet _ [false, true, true]; exact rfl; decide +kernel; exact rfl; intro R; refine ⟨_, (by repeat constructor), ?_⟩;
                 (first | (apply EvW.cmp; exact rfl; exact rfl; exact rfl)))
            exact Par.nil
          · repeat (first | exact AllN.nil | (apply AllN.cons; (intro c x; (repeat (first | exact IndA.nil | (apply IndA.skip; decide +kernel) | apply IndA.same))))) 
          · repeat (first | exact AllN.nil | (apply AllN.cons; (intro c x; (repeat (first | exact IndT.nil | (apply IndT.skip; decide +kernel) | apply IndT.same))))) 
          · exact fun _ => rfl
          intro c
          refine ⟨_, (by repeat constructor), ?_⟩
          apply WE.writ
          · (focus ((repeat (first | exact Writ.nil | apply Writ.some | apply Writ.none)); done))
          generalize (c 4).1 = b4
          generalize (c 10).1 = b10
          have hk4 : ((k : Int) - 4).toNat = f.length - 4 := by omega
          have hnum : (PR.mk 0 (f.drop ((k : Int) - 4).toNat)).num 4 = (numOf (f.drop (f.length - 4)), PR.mk 0 []) := by
            have hl4 : (f.drop (f.length - 4)).length = 4 := by simp; omega
            rw [hk4, num_good _ 4 rfl (by simp only []; omega)]
            simp only []
            rw [show (f.drop (f.length - 4)).take 4 = f.drop (f.length - 4) from List.take_of_length_le (by omega), show (f.drop (f.length - 4)).drop 4 = [] from List.drop_of_length_le (by omega)]
          rw [hnum, hk4, show [f.take (f.length - 4)].flatten = f.take (f.length - 4) by simp]
          by_cases hsum : numOf (f.drop (f.length - 4)) = ((crc (f.take (f.length - 4))).toNat : Int)
          · have hB : bodyF f a = ((f.take (f.length - 4)).drop 2, a + f.length, 0) := by unfold bodyF; rw [if_neg (by rw [hsum]; simp)]
            rw [hB, decide_eq_false (fun h => h hsum)]
            repeat first
              | (apply WL.q; exact rfl; exact rfl; exact rfl; (first | (apply EvW.move; exact rfl) | (apply EvW.assign; exact rfl) | (apply EvW.arN; exact rfl; exact rfl; exact rfl; refine i64_in ?_ ?_ <;> omega) | (apply EvW.sliceS; exact rfl; exact UndC.eq; exact rfl; exact rfl; omega; omega; omega)))
              | refine WC.seq ?_ | refine WC.region ?_ | refine WL.nil ?_ | refine WE.next ?_ | refine WC.skip ?_ | refine WC.condF rfl ?_ | refine WC.ret ?_
            refine WE.bare ?_
            refine WE.retN (l := [4, 5, 6]) rfl rfl rfl ?_
            refine ⟨?_, rfl⟩
            rw [← hfl]
            have e1 : ((f.length : Int) - 4).toNat = f.length - 4 := by omega
            simp only [e1]
            rfl
          · have hB : bodyF f a = ([], 0, 4) := by unfold bodyF; rw [if_pos hsum]
            rw [hB, decide_eq_true hsum]
            repeat first
              | (apply WL.q; exact rfl; exact rfl; exact rfl; (first | (apply EvW.assign; exact rfl)))
              | refine WC.seq ?_ | refine WC.region ?_ | refine WL.nil ?_ | refine WE.next ?_ | refine WC.condT rfl ?_ | refine WC.ret ?_ | refine WE.passRet ?_
            refine WE.bare ?_
            refine WE.retN (l := [4, 5, 6]) rfl rfl rfl ?_
            exact ⟨rfl, rfl⟩
      · rw [if_pos he]
        repeat first
          | (apply WL.q; exact rfl; exact rfl; exact rfl; (first | (apply EvW.move; exact rfl) | (apply EvW.assign; exact rfl) | (apply EvW.extract; exact rfl; exact rfl) | (apply EvW.cmpT; exact rfl; exact rfl; exact rfl; omega)))
          | refine WC.seq ?_ | refine WC.region ?_ | refine WL.nil ?_ | refine WE.next ?_ | refine WC.condT rfl ?_ | refine WC.ret ?_ | refine WE.passRet ?_
        refine WE.retN (l := [4, 5, 6]) rfl rfl rfl ?_
        exact ⟨rfl, rfl⟩
end Go.Proofs.Ytknclcjmfgdphaa
namespace Go.Proofs.Ytknclcjmfgdphaa
open Go.RowKit Go.BK
def part (k : Nat) (n : Int) (j : Nat) : List UInt8 := List.replicate (k - j) 0 ++ (be k n).drop (k - j)
end Go.Proofs.Ytknclcjmfgdphaa
namespace Go.Proofs.Ytknclcjmfgdphaa
open Go.RowKit Go.BK
theorem head_length (b : List UInt8) : (head b).length = b.length + 2 := by simp [head, be_length]; omega
theorem frame_length (b : List UInt8) : (frame b).length = b.length + 6 := by simp [frame, head_length, be_length]
theorem numOf_len (b : List UInt8) (h : b.length ≤ 1024) : numOf (be 2 (b.length : Int)) = b.length := numOf_be2 _ (by omega) (by omega)
theorem numOf_crc (x : BitVec 32) : numOf (be 4 (x.toNat : Int)) = x.toNat := numOf_be4 _ (by omega) (by have := x.isLt; omega)
theorem frame_take2 (b t : List UInt8) : (frame b ++ t).take 2 = be 2 (b.length : Int) := by
  unfold frame head
  rw [List.append_assoc, List.append_assoc, List.take_left' (be_length _ _)]
theorem cutF_frame (b t : List UInt8) (h : b.length ≤ 1024) : cutF (frame b ++ t) = ((b.length : Int) + 6, 0) := by
  have hl := frame_length b
  unfold cutF
  rw [frame_take2, numOf_len b h, if_neg (by rw [List.length_append]; omega), if_neg (by omega), if_neg (by rw [List.length_append]; omega)]
theorem bodyF_frame (b : List UInt8) (a : Int) : bodyF (frame b) a = (b, a + b.length + 6, 0) := by
  have hl := frame_length b
  have hh := head_length b
  have e1 : (frame b).take ((frame b).length - 4) = head b := by unfold frame; rw [List.take_left' (by rw [List.length_append, be_length]; omega)]
  have e2 : (frame b).drop ((frame b).length - 4) = be 4 ((crc (head b)).toNat : Int) := by unfold frame; rw [List.drop_left' (by rw [List.length_append, be_length]; omega)]
  have e3 : (head b).drop 2 = b := by unfold head; rw [List.drop_left' (be_length _ _)]
  unfold bodyF
  rw [e1, e2, numOf_crc, if_neg (by simp), e3, hl]
  simp only [Prod.mk.injEq, true_and, and_true]
  omega
theorem nextF_frame (p b t : List UInt8) (h : b.length ≤ 1024) : nextF (p ++ (frame b ++ t)) p.length = (b, (p.length : Int) + b.length + 6, 0) := by
  unfold nextF
  rw [if_neg (by rw [List.length_append]; omega), show ((p.length : Nat) : Int).toNat = p.length from rfl, List.drop_left' rfl, cutF_frame b t h]
  rw [if_neg (by simp)]
  simp only []
  rw [List.take_left' (by rw [frame_length]; omega), bodyF_frame]
end Go.Proofs.Ytknclcjmfgdphaa
namespace Go.Proofs.Ytknclcjmfgdphaa
open Go.RowKit Go.BK Go.ChangeShapes Go.WideShapes Go.ChangeAt Go.ChangeMaps Go.Deep
theorem flat_one {α : Type} (f : α → Value) (l : List α) : (l.flatMap fun a => [f a]) = l.map f := by
  induction l with
  | nil => rfl
  | cons x r ih => rw [List.flatMap_cons, ih]; rfl
section
variable {H : Type} {enc : TypeId × Value → H} {P : Program} {W : World}
end
end Go.Proofs.Ytknclcjmfgdphaa
namespace Go.BK
open Go.RowKit
section
variable {P : Program} {w0 : World} {S0 : BSet} {n : Nat} {F : Fr} {A A' r : List HP} {ops : Array Oper} {Q : Exit → Act → World → Prop} {rest : List Oper} {d : Nat} {T : TypeId} {pos : String} {af : Array Edge} {x y : Operand} {v u : Value} {t ty e U : TypeId} {k : IntKind} {a b : Int} {cs ys : List Value} {bl o sz len m : Nat} {dd : Option Tmp} {g : Option (Nat × Bool)}
theorem runLoadVar {w : World} {l : List Value} (hag : aggB P T = true) (hm : szB P T = some l.length) (hb : blkAt bl l.toArray U w) : (loadVar T ⟨bl, 0, none⟩).run P w = .ok (.agg l.toArray) w := by
  have h := runLoadAgg (P := P) (w := w) (t := T) (o := 0) hag hm hb (by simp)
  unfold Instr.loadAt at h
  simp only [Instr.sureAddr, Sem.run_bind, Sem.run_pure, Result.andThen] at h
  rw [h]
  simp
/-- Two results, the first in a cell. -/
theorem WE.retC2 {fn : Func} {t t' : Nat} {R : Value → List HP → Prop} {l : List Value} (hr : fn.results = #[.cell t T, .tmp t']) (hv : F.get t = some (ptr bl 0)) (hv' : F.get t' = some v) (ht : Take (.blk bl l.toArray U) A r) (hag : aggB P T = true) (hm : szB P T = some l.length) (k : ∀ w, St w0 S0 A w → St w0 S0 A' w) (h : R (.tuple #[.agg l.toArray, v]) A') :
    WE w0 S0 n (bodyPost P fn (RetSt w0 S0 R)) .ret F A :=
  ⟨fun act w ha hs => bodyPost_ret (v := .tuple #[.agg l.toArray, v]) (by
    have hl := runLoadVar (P := P) (w := w) hag hm (hs.blk ht)
    have hg : act.tmps.getD t undef = ptr bl 0 := by rw [Array.getD_eq_getD_getElem?, ha.get t _ hv]; rfl
    have hg' : act.tmps.getD t' undef = v := by rw [Array.getD_eq_getD_getElem?, ha.get t' _ hv']; rfl
    rw [Array.getD_eq_getD_getElem?] at hg hg'
    simp [results, hr, hg, hg', asAddr, hl]) ha.defers ⟨_, A', rfl, h, k w hs⟩⟩
/-- A function value. -/
theorem EvW.makeFunc {f : FuncId} {caps : List Operand} {vs : List Value} (hv : evs F caps = some vs) : EvW P w0 S0 n F A ⟨dd, .makeFunc (.func f) #[] caps.toArray, T, pos, af, g⟩ (.func (.func f) #[] vs.toArray) :=
  .pure fun a' w ha _ => by
    have := evs_map ha caps vs hv
    simp [execOp, Instr.makeFunc, this]
/-- A call of a function value. -/
theorem WL.callV {f : FuncId} {z : Operand} {caps : List Value} {args : List Operand} {ats : Array TypeId} {vals : List Value} (A1 : List HP) {R : Value → List HP → Prop}
    (hn : Nat.blt d n = true) (hz : ev F z = some (.func (.func f) #[] caps.toArray)) (hargs : evs F args = some vals) (hcall : ∀ w, (callFunc f (vals ++ caps).toArray).run P w = .ok (.enter f (vals ++ caps).toArray) w) (ht : TakeL A1 A A')
    (hspec : ∀ w S, (sepL A1).sat S w → (∀ B, Sees w0 S0 B → Sees w S B) → (∀ B r, Take B A' r → Sees w S B) → Tri P f (vals ++ caps).toArray w S R)
    (kk : ∀ v A2, R v A2 → WL P w0 S0 n ops Q rest ((d, v) :: F) (A2 ++ A')) :
    WL P w0 S0 n ops Q (⟨some d, .call ⟨.value z, args.toArray, ats⟩, T, pos, af, none⟩ :: rest) F A := by
  refine .step (fun act w ha hs K hK => ?_) rfl
  have hvals := evs_map ha args vals hargs
  obtain ⟨S, h1, h2, h3⟩ := hs
  obtain ⟨S1, S2, hu, hdis, h4, h5⟩ := ht.star h1
  have hsp := (hspec w S1 h4 (fun B hB => hB.down h2 h3 fun b hb => (hu b).2 (.inl hb)) (fun B r tB => by
    obtain ⟨S3, S4, hu', hd', h6, h7⟩ := tB.star h5
    exact ⟨S3, h6, fun b hb hb' => hdis b hb' ((hu' b).2 (.inl hb))⟩)).go
  have hrun : (execOp act.eval ⟨some d, .call ⟨.value z, args.toArray, ats⟩, T, pos, af, none⟩).run P w = .ok (.enter f (vals ++ caps).toArray) w := by
    have hc := hcall w
    have e2 : vals.toArray ++ caps.toArray = (vals ++ caps).toArray := by simp
    have e1 : (args.toArray.map act.eval) = vals.toArray := by simp [hvals]
    simp only [execOp, resolve, e1, ha.eval hz, Deferred.ofValue, Sem.run_bind, Sem.run_pure, Result.andThen, invoke, Array.empty_append, e2]
    exact hc
  unfold Oper.wp
  rw [hrun]
  refine hsp.mono ?_
  rintro e w' ⟨v, A2, rfl, hR, S', h6, h7, h8⟩
  refine hK _ _ ((kk v A2 hR).go _ _ (ha.put (by simpa using hn) v) ?_)
  have hext : Ext S w w' := ⟨h7.os, h7.tape, h7.output, h7.size, fun b hb hnb => h7.keep b hb fun h => hnb ((hu b).2 (.inl h))⟩
  refine ⟨fun b => S' b ∨ S2 b, sepL_append ⟨S', S2, fun _ => Iff.rfl, fun b hb hb2 => ?_, h6, (sepL A').loc h5 fun b hb => h7.keep b ((sepL A').bnd h5 hb) fun h => hdis b h hb⟩, h2.step hext h3, fun b hb => ?_⟩
  · rcases h8 b hb with h | h
    · exact hdis b h hb2
    · have := (sepL A').bnd h5 hb2; omega
  · rcases hb with hb | hb
    · rcases h8 b hb with h | h
      · exact h3 b ((hu b).2 (.inl h))
      · exact .inr (Nat.le_trans h2.size h)
    · exact h3 b ((hu b).2 (.inr hb))
/-- A cell of a block that is only read. -/
theorem EvW.ldSeen {q : Value} (hx : ev F x = some (ptr bl o)) (hs : scalB P t = true) (hB : Sees w0 S0 (.blk bl cs.toArray U)) (hc : getL cs o = some q) : EvW P w0 S0 n F A ⟨dd, .load t x, T, pos, af, g⟩ q :=
  .loadSees hx hs hB fun R w h => h.2.cell (by rw [List.getElem?_toArray, ← getL_eq]; exact hc)
/-- An int of a list of things: a cell of an element. -/
theorem EvW.ldFld {α : Type} {xs : List α} {f : α → List Value} {i off : Nat} {q : Value} (hx : ev F x = some (elemP sz v i off)) (hs : scalB P t = true) (hB : Sees w0 S0 (.row sz v len (xs.flatMap f))) (hI : Inhabited α) (hf : ∀ a, (f a).length = sz) (hi : i < xs.length) (hq : getL (f (xs.getD i default)) off = some q) : EvW P w0 S0 n F A ⟨dd, .load t x, T, pos, af, g⟩ q :=
  .ldRow hx hs hB (by
    have h := flat_get (z := default) hf hi
    rw [getL_eq] at hq
    have hlt : off < sz := by rw [← hf (xs.getD i default)]; exact (List.getElem?_eq_some_iff.1 hq).1
    rw [← h, List.getElem?_take_of_lt hlt, List.getElem?_drop] at hq
    exact hq)
end
end Go.BK
namespace Go.BK
open Go.RowKit
section
variable {P : Program} {w0 : World} {S0 : BSet} {n : Nat} {F : Fr} {A r : List HP} {dd : Option Tmp} {T : TypeId} {pos : String} {af : Array Edge} {x y : Operand} {v u : Value} {t ty e : TypeId} {cs ys : List Value} {sz len m : Nat} {g : Option (Nat × Bool)} {out : Nat × Value → List HP}
theorem NewW.append {bts : Nat} {z : Value} (hx : ev F x = some v) (hy : ev F y = some u) (hu : P.underlying t = some (.slice e)) (hz : szB P e = some sz) (hb : byB P e = some bts) (hzv : zvB P e = some z) (hzs : Nat.beq z.cells.size sz = true) (hni : notInt P ty = true)
    (hb0 : Nat.beq bts 0 = false) (ht : Take (.own e sz v len cs) A r) (ha : Adds P w0 S0 A sz u m ys) (hroom : (len + m) * bts ≤ 140737488355328)
    (ho : ∀ p w, St w0 S0 (.own e sz p.2 (len + m) (cs ++ ys) :: r) w → St w0 S0 (out p) w) : NewW P w0 S0 n F A out ⟨dd, .call ⟨.builtin .append, #[x, y], #[t, ty]⟩, T, pos, af, g⟩ (fun p => p.2) := by
  refine ⟨fun Q K a w haa hst hK => ?_⟩
  obtain ⟨hyl, hy1, hyr⟩ := ha
  obtain ⟨hy2, hy3⟩ := hyr w hst
  have hzs := Nat.eq_of_beq_eq_true hzs
  obtain ⟨inf, hinf, hby⟩ : ∃ inf, P.info? e = some inf ∧ inf.bytes = bts := by
    unfold byB at hb
    cases h : P.info? e with
    | none => simp [h] at hb
    | some i => simp [h] at hb; exact ⟨i, rfl, hb⟩
  subst hby
  have hb0' : ¬ inf.bytes = 0 := Nat.ne_of_beq_eq_false hb0
  have fin : ∀ v' w', (Builtin.append_ #[t, ty] T #[v, u]).run P w = .ok v' w' → St w0 S0 (.own e sz v' (len + m) (cs ++ ys) :: r) w' → Oper.wp P ⟨dd, .call ⟨.builtin .append, #[x, y], #[t, ty]⟩, T, pos, af, g⟩ a w K Q := by
    intro v' w' hr hs'
    unfold Oper.wp
    rw [runCallB (vals := #[v, u]) (v := v') (w' := w') (by simp [haa.eval hx, haa.eval hy]) (by simp [builtin, hr])]
    exact hK (0, v') _ (ho (0, v') _ hs')
  obtain ⟨S, h1, h2, h3⟩ := id hst
  obtain ⟨S1, S2, hun, hdis, ⟨hcl, h4⟩, h5⟩ := ht.star h1
  have grow : ∀ p sCap, v = .slice p len sCap → sCap < len + m → (∀ w', w'.heap = w.heap → (Builtin.firstCells sz len v).run P w' = .ok cs.toArray w') → Oper.wp P ⟨dd, .call ⟨.builtin .append, #[x, y], #[t, ty]⟩, T, pos, af, g⟩ a w K Q := by
    intro p sCap hv hlt hfc
    subst hv
    have hge : len + m ≤ (Question.appendCap (len + m) sCap e).cut (w.tape w.drawn (Question.appendCap (len + m) sCap e)) := by simp [Question.cut]
    generalize hnc : (Question.appendCap (len + m) sCap e).cut (w.tape w.drawn (Question.appendCap (len + m) sCap e)) = nc at hge
    obtain ⟨sp, hsp1, hsp2⟩ : ∃ sp : List Value, Builtin.zeroCells z.cells (nc - (len + m)) = sp.toArray ∧ sp.length = (nc - (len + m)) * sz :=
      ⟨(Builtin.zeroCells z.cells (nc - (len + m))).toList, by simp, by simp [Builtin.zeroCells, hzs]⟩
    have hD : St w0 S0 A w.drew := hst.drew _
    refine fin _ _ (runAppendGrow hu hz hni hinf hb0' hzv hy2 hlt hnc hroom (hfc _ rfl) (hyr _ hD).2 hsp1) ?_
    have hN := (hD.drop ht).newBlk ((cs ++ ys) ++ sp).toArray e
    refine hN.mono fun S' w' hs' => star_mono hs' (fun S'' h => blk_own h (by simp [hcl, hyl, Nat.add_mul]) hge ?_) fun _ h => h
    simp only [List.length_append, hcl, hyl, hsp2, ← Nat.add_mul]
    congr 1; omega
  rcases h4 with ⟨h4, h5', h6⟩ | ⟨b, cap, sp, h4, h5', h6, h7⟩
  · subst h4; subst h5'
    simp at hcl; subst hcl
    by_cases hm : m = 0
    · subst hm
      simp at hyl; subst hyl
      exact fin _ w (runAppendNil hu hz hni hy2 hy3) ⟨S, ⟨S1, S2, hun, hdis, ⟨by simp, .inl ⟨rfl, rfl, h6⟩⟩, h5⟩, h2, h3⟩
    · exact grow none 0 rfl (by omega) (fun w' _ => by simp [Builtin.firstCells])
  · by_cases hfit : len + m ≤ cap
    · subst h4
      obtain ⟨hS1, lo, hi, hh, hfr⟩ := h7
      have hle : len * sz + ys.length ≤ (cs ++ sp).length := by rw [h6, hyl, ← Nat.add_mul]; exact Nat.mul_le_mul_right _ hfit
      have hstr := runStoreOne (P := P) (o := len * sz) hh (by simpa using hfr) hy1 hle
      have hov : over (cs ++ sp) (len * sz) ys = (cs ++ ys) ++ sp.drop ys.length := by
        unfold over
        rw [← hcl]
        simp
      rw [hov] at hstr
      refine fin _ _ (runAppendIn hu hz hni hy2 hfit hy3 hstr) ?_
      have hA : St w0 S0 (.blk b (cs ++ sp).toArray e :: r) w := ⟨S, ⟨S1, S2, hun, hdis, ⟨hS1, lo, hi, hh, hfr⟩, h5⟩, h2, h3⟩
      have hupd : St w0 S0 (.blk b ((cs ++ ys) ++ sp.drop ys.length).toArray e :: r) { w with heap := w.heap.setIfInBounds b (.cells ((cs ++ ys) ++ sp.drop ys.length).toArray e (lo, hi)) } := by
        refine hA.write .head (fun lo' hi' h8 _ => ?_) (by rw [← hov]; exact over_length hle)
        rw [hh] at h8
        injection h8 with h8
        cases h8
        rfl
      exact hupd.mono fun S' w' hs' => star_mono hs' (fun S'' h => blk_own h (by simp [hcl, hyl, Nat.add_mul]) hfit (by rw [← hov, over_length hle, h6])) fun _ h => h
    · exact grow (some ⟨b, 0, none⟩) cap h4 (by omega) (fun w' hw' => by
        subst h4
        obtain ⟨hS1, lo, hi, hh, hfr⟩ := h7
        refine runFirst hcl fun j q hj => ?_
        have h6 := List.getElem?_eq_some_iff.1 hj
        simp [World.cell?, hw', hh, List.getElem?_append, h6.1, h6.2])
theorem Sees.row_one {w : World} {S : BSet} {v : Value} {cs : List Value} {sz len : Nat} (h : Sees w S (.row sz v len cs)) : v.oneCell' = true := by
  rcases h.row_shape with ⟨p, cap, rfl, _⟩ | ⟨b, off, cap, rfl, _⟩ <;> rfl
/-- A store of a slice of the call's own. -/
theorem EffW.storeSl {A' : List HP} {bl o : Nat} (hx : ev F x = some (ptr bl o)) (hy : ev F y = some v) (ht : Take (.own e sz v len cs) A r) (hz : szB P t = some 1) (hu : UpdC bl o [v] A A') : EffW P w0 S0 n F A A' ⟨none, .store t x y, T, pos, af, g⟩ undef := by
  refine ⟨fun Q K a w ha hst hK => ?_⟩
  obtain ⟨S, h1, h2, h3⟩ := id hst
  obtain ⟨S1, S2, hun, hdis, h4, h5⟩ := ht.star h1
  have hv : v.oneCell' = true := by
    rcases own_shape h4 with ⟨rfl, _, _⟩ | ⟨b, cap, rfl, _⟩ <;> rfl
  exact (EffW.store (P := P) (w0 := w0) (S0 := S0) (n := n) (F := F) (T := T) (pos := pos) (af := af) (g := g) (t := t) hx hy (cells_one hv) (by simpa using hz) (by simp [hv]) hu).go Q K a w ha hst hK
end
end Go.BK
namespace Go.BK
open Go.RowKit
section
variable {P : Program} {w0 : World} {S0 : BSet} {n : Nat} {F : Fr} {A : List HP} {dd : Option Tmp} {T : TypeId} {pos : String} {af : Array Edge} {x y : Operand} {t ty : TypeId} {g : Option (Nat × Bool)}
theorem runForYield {α β : Type} {w : World} {body : α → β → Sem (ForInStep β)} {s : β} : ∀ (l : List α), (∀ f ∈ l, (body f s).run P w = .ok (.yield s) w) → (forIn l s body).run P w = .ok s w
  | [], _ => by simp
  | f :: l, h => by
    rw [List.forIn_cons]
    simp only [Sem.run_bind, h f (by simp), Result.andThen]
    exact runForYield l fun g hg => h g (by simp [hg])
/-- A cut: behind the first part go on once, from what is said of it. -/
theorem WC.mid {σ : Type} (Fm : σ → Fr) (Am : σ → List HP) (I : σ → Prop) {x y : Code} {Q : Exit → Act → World → Prop} (h1 : WC P w0 S0 n x (Exit.then (fun a w => ∃ s, I s ∧ Agr n (Fm s) a ∧ St w0 S0 (Am s) w) Q) F A) (h2 : ∀ s, I s → WC P w0 S0 n y Q (Fm s) (Am s)) : WC P w0 S0 n x (Exit.then (y.wp P Q) Q) F A :=
  ⟨fun a w ha hs => Code.wp_mono (fun e a w h => by
    cases e with
    | normal =>
      obtain ⟨s, hI, h3, h4⟩ := h
      exact (h2 s hI).go a w h3 h4
    | _ => exact h) (h1.go a w ha hs)⟩
theorem WE.mid {σ : Type} {Fm : σ → Fr} {Am : σ → List HP} {I : σ → Prop} {Q : Exit → Act → World → Prop} (s : σ) (hI : I s) (hF : Sub (Fm s) F) (hA : ∀ w, St w0 S0 A w → St w0 S0 (Am s) w) : WE w0 S0 n (Exit.then (fun a w => ∃ s, I s ∧ Agr n (Fm s) a ∧ St w0 S0 (Am s) w) Q) .normal F A :=
  ⟨fun _ w ha hs => ⟨s, hI, ha.sub hF, hA w hs⟩⟩
end
end Go.BK
namespace Go.BK
open Go.RowKit Go.MapKept
section
variable {P : Program} {w0 : World} {S0 : BSet} {n : Nat} {F : Fr} {A : List HP} {dd : Option Tmp} {T : TypeId} {pos : String} {af : Array Edge} {x y : Operand} {t ty : TypeId} {g : Option (Nat × Bool)} {ops : Array Oper} {rest : List Oper} {Q : Exit → Act → World → Prop} {d : Tmp}
def mget (a : Int) : List (Int × Value) → Option Value
  | [] => none
  | p :: m => if a = p.1 then some p.2 else mget a m
def mput (a : Int) (v : Value) : List (Int × Value) → List (Int × Value)
  | [] => [(a, v)]
  | p :: m => if a = p.1 then (a, v) :: m else p :: mput a v m
def mdel (a : Int) : List (Int × Value) → List (Int × Value)
  | [] => []
  | p :: m => if a = p.1 then m else p :: mdel a m
theorem mget_put (a b : Int) (v : Value) : ∀ m, mget b (mput a v m) = if b = a then some v else mget b m
  | [] => by
    unfold mput mget
    by_cases h : b = a
    · rw [if_pos h, if_pos h]
    · rw [if_neg h, if_neg h]; rfl
  | p :: m => by
    unfold mput
    by_cases h : a = p.1
    · rw [if_pos h]
      by_cases h2 : b = a
      · simp only [mget, h2, if_pos]
      · simp only [mget, if_neg h2, if_neg (show ¬ b = p.1 from fun e => h2 (e.trans h.symm))]
    · rw [if_neg h]
      by_cases h3 : b = p.1
      · have h4 : ¬ b = a := fun e => h (e.symm.trans h3)
        simp only [mget, if_pos h3, if_neg h4]
      · simp only [mget, if_neg h3]
        exact mget_put a b v m
def EntOk (es : List MapEntry) (m : List (Int × Value)) : Prop := es.map (fun e => (e.key, e.val)) = m.map fun p => (i64 p.1, p.2)
/-- Block b is a map of ints to values: these entries, in the order in which they came. -/
def HP.imap (b : Nat) (m : List (Int × Value)) : HP where
  sat S w := (∀ x, S x ↔ x = b) ∧ ∃ es clock, w.heap[b]? = some (.map es clock) ∧ EntOk es.toList m
  loc := fun ⟨h1, es, cl, h2, h3⟩ hk => ⟨h1, es, cl, by rw [hk b ((h1 b).2 rfl)]; exact h2, h3⟩
  bnd := fun {_ _ x} ⟨h1, _, _, h2, _⟩ hb => by rw [(h1 x).1 hb]; exact lt_of_get h2
def mfind (a : Int) : List (Int × Value) → Nat → Option (Nat × Value)
  | [], _ => none
  | p :: m, i => if a = p.1 then some (i, p.2) else mfind a m (i + 1)
theorem findNow_int {k : IntKind} {a : Int} : ∀ (es : List MapEntry) (m : List (Int × Value)) (i : Nat), EntOk es m → Instr.findNow (.int k) (i64 a) es i = some (mfind a m i)
  | [], [], _, _ => rfl
  | [], _ :: _, _, h => by simp [EntOk] at h
  | _ :: _, [], _, h => by simp [EntOk] at h
  | e :: es, p :: m, i, h => by
    simp only [EntOk, List.map_cons, List.cons.injEq, Prod.mk.injEq] at h
    unfold Instr.findNow mfind
    rw [h.1.1, show Instr.sameNow (.int k) (i64 a) (i64 p.1) = some (a == p.1) from by simp [Instr.sameNow]]
    by_cases hp : a = p.1
    · rw [if_pos hp, show (a == p.1) = true from by simpa using hp, h.1.2]
    · rw [if_neg hp, show (a == p.1) = false from by simpa using hp]
      exact findNow_int es m (i + 1) h.2
theorem mfind_get (a : Int) : ∀ (m : List (Int × Value)) (i : Nat), (mfind a m i).map (·.2) = mget a m
  | [], _ => rfl
  | p :: m, i => by
    unfold mfind mget
    by_cases h : a = p.1
    · rw [if_pos h, if_pos h]; rfl
    · rw [if_neg h, if_neg h]; exact mfind_get a m (i + 1)
theorem mfind_put {a : Int} {v : Value} : ∀ (m : List (Int × Value)) (i : Nat), (mfind a m i = none → mput a v m = m ++ [(a, v)]) ∧ ∀ j q, mfind a m i = some (j, q) → i ≤ j ∧ j - i < m.length ∧ (m.getD (j - i) (0, q)).1 = a ∧ mput a v m = m.set (j - i) (a, v) ∧ mdel a m = m.eraseIdx (j - i)
  | [], i => ⟨fun _ => rfl, fun j q h => by simp [mfind] at h⟩
  | p :: m, i => by
    have ih := mfind_put (a := a) (v := v) m (i + 1)
    unfold mfind mput mdel
    by_cases hp : a = p.1
    · rw [if_pos hp, if_pos hp, if_pos hp]
      refine ⟨fun h => by simp at h, fun j q h => ?_⟩
      simp only [Option.some.injEq, Prod.mk.injEq] at h
      obtain ⟨rfl, rfl⟩ := h
      refine ⟨Nat.le_refl _, by simp, ?_, by simp, by simp⟩
      simp [hp]
    · rw [if_neg hp, if_neg hp, if_neg hp]
      refine ⟨fun h => by rw [ih.1 h]; rfl, fun j q h => ?_⟩
      obtain ⟨h1, h2, h3, h4, h5⟩ := ih.2 j q h
      have e : j - i = (j - (i + 1)) + 1 := by omega
      refine ⟨by omega, by simp only [List.length_cons]; omega, ?_, ?_, ?_⟩
      · rw [e]; simpa using h3
      · rw [e, h4]; rfl
      · rw [e, h5]; rfl
theorem mfind_none_del {a : Int} : ∀ (m : List (Int × Value)) (i : Nat), mfind a m i = none → mdel a m = m
  | [], _, _ => rfl
  | p :: m, i, h => by
    unfold mfind at h
    unfold mdel
    by_cases hp : a = p.1
    · rw [if_pos hp] at h; simp at h
    · rw [if_neg hp] at h ⊢
      rw [mfind_none_del m (i + 1) h]
theorem runCheckInt {w : World} {e : Bool} {q : IntKind} {k : TypeId} {a : Int} (hk : P.underlying k = some (.int q)) : (Instr.checkKey e 10000 k (i64 a)).run P w = .ok () w := by
  unfold Instr.checkKey
  simp only [Sem.run_bind, run_underlying hk, Result.andThen, Sem.run_pure]
theorem runFindInt {w : World} {q : IntKind} {k : TypeId} {a : Int} {es : List MapEntry} {m : List (Int × Value)} (hk : P.underlying k = some (.int q)) (hE : EntOk es m) : (Instr.findKey k (i64 a) es).run P w = .ok (mfind a m 0) w := by
  simp [Instr.findKey, run_underlying hk, Result.andThen, findNow_int (k := q) (a := a) es m 0 hE]
theorem sameBits_int (a : Int) : ∀ n, Instr.sameBits n (i64 a) (i64 a) = true
  | 0 => by simp [Instr.sameBits]
  | n + 1 => by simp [Instr.sameBits]
theorem runStays {w : World} {a : Int} : (Instr.keyThatStays (i64 a) (i64 a)).run P w = .ok (i64 a) w := by
  unfold Instr.keyThatStays
  rw [sameBits_int, if_pos rfl]
  rfl
theorem EvW.lookup {k e : TypeId} {q : IntKind} {b : Nat} {m : List (Int × Value)} {a : Int} {z : Value} {r : List HP} (hx : ev F x = some (.map (some b))) (hy : ev F y = some (i64 a)) (hu : P.underlying t = some (.map k e)) (hk : P.underlying k = some (.int q)) (hz : zvB P e = some z) (ht : Take (.imap b m) A r) :
    EvW P w0 S0 n F A ⟨dd, .lookup t x y false, T, pos, af, g⟩ ((mget a m).getD z) :=
  .pure fun a' w ha hst => by
    obtain ⟨S, _, es, cl, h2, h3⟩ := hst.take ht
    have hz' := runZv (w := w) hz
    have hf := mfind_get a m 0
    simp only [execOp, ha.eval hx, ha.eval hy, Instr.lookup, Sem.run_bind, run_underlying hu, Result.andThen, Go.MapKept.run_getObj_map h2, Sem.run_pure, runCheckInt hk, runFindInt hk h3]
    cases hm : mfind a m 0 with
    | none => rw [hm] at hf; simp [← hf, hz', Result.andThen]
    | some p => rw [hm] at hf; simp [← hf]
theorem EvW.lookupOk {k e : TypeId} {q : IntKind} {b : Nat} {m : List (Int × Value)} {a : Int} {z : Value} {r : List HP} (hx : ev F x = some (.map (some b))) (hy : ev F y = some (i64 a)) (hu : P.underlying t = some (.map k e)) (hk : P.underlying k = some (.int q)) (hz : zvB P e = some z) (ht : Take (.imap b m) A r) :
    EvW P w0 S0 n F A ⟨dd, .lookup t x y true, T, pos, af, g⟩ (.tuple #[(mget a m).getD z, .bool (mget a m).isSome]) :=
  .pure fun a' w ha hst => by
    obtain ⟨S, _, es, cl, h2, h3⟩ := hst.take ht
    have hz' := runZv (w := w) hz
    have hf := mfind_get a m 0
    simp only [execOp, ha.eval hx, ha.eval hy, Instr.lookup, Sem.run_bind, run_underlying hu, Result.andThen, Go.MapKept.run_getObj_map h2, Sem.run_pure, runCheckInt hk, runFindInt hk h3]
    cases hm : mfind a m 0 with
    | none => rw [hm] at hf; simp [← hf, hz', Result.andThen]
    | some p => rw [hm] at hf; simp [← hf]
theorem EntOk.modify {es : List MapEntry} {m : List (Int × Value)} {a : Int} {v : Value} {i : Nat} {f : MapEntry → MapEntry} (hE : EntOk es m) (hf : ∀ e, ((f e).key, (f e).val) = (i64 a, v)) : EntOk (es.modify i f) (m.set i (a, v)) := by
  induction es generalizing m i with
  | nil =>
    cases m with
    | nil => cases i <;> simp [EntOk]
    | cons p m => simp [EntOk] at hE
  | cons e es ih =>
    cases m with
    | nil => simp [EntOk] at hE
    | cons p m =>
      simp only [EntOk, List.map_cons, List.cons.injEq] at hE
      cases i with
      | zero => simp only [EntOk, List.modify_zero_cons, List.set_cons_zero, List.map_cons, hf, hE.2]
      | succ i =>
        have := ih (m := m) (i := i) hE.2
        simp only [EntOk, List.modify_succ_cons, List.set_cons_succ, List.map_cons, hE.1] at this ⊢
        rw [this]
theorem EntOk.erase {es : List MapEntry} {m : List (Int × Value)} {i : Nat} (hE : EntOk es m) : EntOk (es.eraseIdx i) (m.eraseIdx i) := by
  induction es generalizing m i with
  | nil =>
    cases m with
    | nil => cases i <;> simp [EntOk]
    | cons p m => simp [EntOk] at hE
  | cons e es ih =>
    cases m with
    | nil => simp [EntOk] at hE
    | cons p m =>
      simp only [EntOk, List.map_cons, List.cons.injEq] at hE
      cases i with
      | zero => simpa [EntOk] using hE.2
      | succ i =>
        have := ih (m := m) (i := i) hE.2
        simp only [EntOk, List.eraseIdx_cons_succ, List.map_cons, hE.1] at this ⊢
        rw [this]
theorem EntOk.push {es : List MapEntry} {m : List (Int × Value)} {a : Int} {v : Value} {e : MapEntry} (hE : EntOk es m) (he : (e.key, e.val) = (i64 a, v)) : EntOk (es ++ [e]) (m ++ [(a, v)]) := by
  simp only [EntOk, List.map_append, List.map_cons, List.map_nil, he]
  rw [hE]
theorem EntOk.at {es : List MapEntry} {m : List (Int × Value)} {i : Nat} {q : Value} (hE : EntOk es m) (h : i < m.length) : (es[i]?).map (·.key) = some (i64 (m.getD i (0, q)).1) := by
  have := congrArg (fun l => (l[i]?).map Prod.fst) hE
  simp only [List.getElem?_map, Option.map_map] at this
  rw [show ((es[i]?).map (·.key)) = (es[i]?).map (Prod.fst ∘ fun e => (e.key, e.val)) from rfl, this]
  simp [List.getD_eq_getElem?_getD, h]
theorem runUpdate {w : World} {k e : TypeId} {q : IntKind} {b : Nat} {m : List (Int × Value)} {es : Array MapEntry} {cl : Nat} {a : Int} {v : Value} (hu : P.underlying t = some (.map k e)) (hk : P.underlying k = some (.int q)) (h2 : w.heap[b]? = some (.map es cl)) (h3 : EntOk es.toList m) :
    ∃ es' cl', (Instr.mapUpdate t (.map (some b)) (i64 a) v).run P w = .ok () { w with heap := w.heap.setIfInBounds b (.map es' cl') } ∧ EntOk es'.toList (mput a v m) := by
  have hp := mfind_put (a := a) (v := v) m 0
  cases hm : mfind a m 0 with
  | none =>
    refine ⟨es.push { key := i64 a, val := v, born := cl }, cl + 1, ?_, ?_⟩
    · simp [Instr.mapUpdate, run_underlying hu, Result.andThen, Go.MapKept.run_getObj_map h2, runCheckInt hk, runFindInt hk h3, hm, Go.MapKept.run_setObj_map _ h2]
    · rw [hp.1 hm, Array.toList_push]
      exact h3.push rfl
  | some p =>
    obtain ⟨j, q'⟩ := p
    obtain ⟨_, h4, h5, h6, _⟩ := hp.2 j q' hm
    rw [Nat.sub_zero] at h4 h5 h6
    have h7 := h3.at (q := q') h4
    rw [h5] at h7
    have h8 : ((es[j]?).map (·.key)).getD (i64 a) = i64 a := by
      rw [← Array.getElem?_toList, h7]; rfl
    refine ⟨es.modify j fun e => { e with key := i64 a, val := v }, cl, ?_, ?_⟩
    · simp [Instr.mapUpdate, run_underlying hu, Result.andThen, Go.MapKept.run_getObj_map h2, runCheckInt hk, runFindInt hk h3, hm, h8, runStays, Go.MapKept.run_setObj_map _ h2]
    · rw [h6, Array.toList_modify]
      exact h3.modify fun _ => rfl
theorem runDelete {w : World} {k e : TypeId} {q : IntKind} {b : Nat} {m : List (Int × Value)} {es : Array MapEntry} {cl : Nat} {a : Int} {T2 T3 : TypeId} (hu : P.underlying t = some (.map k e)) (hk : P.underlying k = some (.int q)) (h2 : w.heap[b]? = some (.map es cl)) (h3 : EntOk es.toList m) :
    ∃ es' cl', (Builtin.delete_ #[t, T2] T3 #[.map (some b), i64 a]).run P w = .ok (.tuple #[]) { w with heap := w.heap.setIfInBounds b (.map es' cl') } ∧ EntOk es'.toList (mdel a m) := by
  have hp := mfind_put (a := a) (v := undef) m 0
  cases hm : mfind a m 0 with
  | none =>
    refine ⟨es, cl, ?_, ?_⟩
    · simp [Builtin.delete_, run_underlying hu, Result.andThen, Go.MapKept.run_getObj_map h2, runCheckInt hk, runFindInt hk h3, hm, Go.MapKept.run_setObj_map _ h2]
    · rw [mfind_none_del m 0 hm]; exact h3
  | some p =>
    obtain ⟨j, q'⟩ := p
    obtain ⟨_, h4, h5, h6, h7⟩ := hp.2 j q' hm
    rw [Nat.sub_zero] at h7
    refine ⟨es.eraseIdxIfInBounds j, cl, ?_, ?_⟩
    · simp [Builtin.delete_, run_underlying hu, Result.andThen, Go.MapKept.run_getObj_map h2, runCheckInt hk, runFindInt hk h3, hm, Go.MapKept.run_setObj_map _ h2]
    · rw [h7, Array.toList_eraseIdxIfInBounds]
      exact h3.erase
inductive UpdM (b : Nat) (m m' : List (Int × Value)) : List HP → List HP → Prop
  | head {r : List HP} : UpdM b m m' (.imap b m :: r) (.imap b m' :: r)
  | tail {y : HP} {r r' : List HP} : UpdM b m m' r r' → UpdM b m m' (y :: r) (y :: r')
theorem UpdM.take {b : Nat} {m m' : List (Int × Value)} {A A' : List HP} (u : UpdM b m m' A A') : ∃ r, Take (.imap b m) A r ∧ Take (.imap b m') A' r := by
  induction u with
  | head => exact ⟨_, .head, .head⟩
  | tail _ ih => obtain ⟨r, h1, h2⟩ := ih; exact ⟨_, .tail h1, .tail h2⟩
theorem St.updM {b : Nat} {m m' : List (Int × Value)} {A A' : List HP} {w : World} {es' : Array MapEntry} {cl' : Nat} (h : St w0 S0 A w) (u : UpdM b m m' A A') (he : EntOk es'.toList m') : St w0 S0 A' { w with heap := w.heap.setIfInBounds b (.map es' cl') } := by
  obtain ⟨r, t1, t2⟩ := u.take
  refine h.turn fun S hs => ?_
  obtain ⟨S1, S2, hu, hd, ⟨h1, es, cl, h2, h3⟩, h4⟩ := t1.star hs
  have hb := lt_of_get h2
  refine ⟨S, t2.unstar ⟨S1, S2, hu, hd, ⟨h1, es', cl', by simp [Array.getElem?_setIfInBounds_self_of_lt hb], he⟩, (sepL r).loc h4 fun x hx => ?_⟩, ⟨rfl, rfl, rfl, by simp, fun x _ hx => ?_⟩, fun _ h => .inl h⟩
  · have hne : b ≠ x := fun e => hd x ((h1 x).2 e.symm) hx
    simp [Array.getElem?_setIfInBounds_ne hne]
  · have hne : b ≠ x := fun e => hx ((hu x).2 (.inl ((h1 x).2 e.symm)))
    simp [Array.getElem?_setIfInBounds_ne hne]
theorem WL.makeMap (hn : Nat.blt d n = true) (kk : ∀ bl, WL P w0 S0 n ops Q rest ((d, .map (some bl)) :: F) (.imap bl [] :: A)) : WL P w0 S0 n ops Q (⟨some d, .makeMap t none, T, pos, af, none⟩ :: rest) F A := by
  refine .step (fun a w ha hst K hK => ?_) rfl
  have hrun : (execOp a.eval ⟨some d, .makeMap t none, T, pos, af, none⟩).run P w = .ok (.value (.map (some w.heap.size))) (w.alloc (.map #[] 0)) := by
    simp [execOp, Instr.makeMap]
  unfold Oper.wp
  rw [hrun]
  exact hK _ _ ((kk _).go _ _ (ha.put (by simpa using hn) _) (hst.new _ fun _ h1 => ⟨fun _ => Iff.rfl, _, _, h1, rfl⟩))
theorem WL.mapUpdate {k e : TypeId} {q : IntKind} {b : Nat} {m : List (Int × Value)} {a : Int} {v : Value} {z : Operand} {A' : List HP} (hx : ev F x = some (.map (some b))) (hy : ev F y = some (i64 a)) (hv : ev F z = some v) (hu : P.underlying t = some (.map k e)) (hk : P.underlying k = some (.int q)) (ht : UpdM b m (mput a v m) A A') (kk : WL P w0 S0 n ops Q rest F A') :
    WL P w0 S0 n ops Q (⟨none, .mapUpdate t x y z, T, pos, af, none⟩ :: rest) F A := by
  refine .step (fun a' w ha hst K hK => ?_) rfl
  obtain ⟨r, t1, _⟩ := ht.take
  obtain ⟨S, _, es, cl, h2, h3⟩ := hst.take t1
  obtain ⟨es', cl', h4, h5⟩ := runUpdate (a := a) (v := v) hu hk h2 h3
  have hrun : (execOp a'.eval ⟨none, .mapUpdate t x y z, T, pos, af, none⟩).run P w = .ok .skip { w with heap := w.heap.setIfInBounds b (.map es' cl') } := by
    simp [execOp, ha.eval hx, ha.eval hy, ha.eval hv, h4]
  unfold Oper.wp
  rw [hrun]
  exact hK _ _ (kk.go _ _ ha (hst.updM ht h5))
theorem WL.delete {k e T2 : TypeId} {q : IntKind} {b : Nat} {m : List (Int × Value)} {a : Int} {A' : List HP} (hx : ev F x = some (.map (some b))) (hy : ev F y = some (i64 a)) (hu : P.underlying t = some (.map k e)) (hk : P.underlying k = some (.int q)) (ht : UpdM b m (mdel a m) A A') (kk : WL P w0 S0 n ops Q rest F A') :
    WL P w0 S0 n ops Q (⟨none, .call ⟨.builtin .delete, #[x, y], #[t, T2]⟩, T, pos, af, none⟩ :: rest) F A := by
  refine .step (fun a' w ha hst K hK => ?_) rfl
  obtain ⟨r, t1, _⟩ := ht.take
  obtain ⟨S, _, es, cl, h2, h3⟩ := hst.take t1
  obtain ⟨es', cl', h4, h5⟩ := runDelete (a := a) (T2 := T2) (T3 := T) hu hk h2 h3
  have hrun : (execOp a'.eval ⟨none, .call ⟨.builtin .delete, #[x, y], #[t, T2]⟩, T, pos, af, none⟩).run P w = .ok (.value (.tuple #[])) { w with heap := w.heap.setIfInBounds b (.map es' cl') } := by
    simp [execOp, resolve, invoke, builtin, ha.eval hx, ha.eval hy, h4]
  unfold Oper.wp
  rw [hrun]
  exact hK _ _ (kk.go _ _ ha (hst.updM ht h5))
/-- A cell of an element of an own list of things. -/
theorem EvW.ldFldOwn {α : Type} {xs : List α} {f : α → List Value} {i off sz len : Nat} {q v : Value} {ee : TypeId} {r : List HP} (hx : ev F x = some (elemP sz v i off)) (hs : scalB P t = true) (ht : Take (.own ee sz v len (xs.flatMap f)) A r) (hI : Inhabited α) (hf : ∀ a, (f a).length = sz) (hi : i < xs.length) (hq : getL (f (xs.getD i default)) off = some q) : EvW P w0 S0 n F A ⟨dd, .load t x, T, pos, af, g⟩ q :=
  .ldOwn hx hs ht (by
    have h := flat_get (z := default) hf hi
    rw [getL_eq] at hq
    have hlt : off < sz := by rw [← hf (xs.getD i default)]; exact (List.getElem?_eq_some_iff.1 hq).1
    rw [← h, List.getElem?_take_of_lt hlt, List.getElem?_drop] at hq
    exact hq)
theorem over_flat {α : Type} {f : α → List Value} {sz : Nat} {ys : List Value} {off : Nat} (hf : ∀ a, (f a).length = sz) {z y : α} : ∀ (xs : List α) (i : Nat), i < xs.length → f y = over (f (xs.getD i z)) off ys → off + ys.length ≤ sz → over (xs.flatMap f) (i * sz + off) ys = (xs.set i y).flatMap f
  | [], i, h, _, _ => absurd h (Nat.not_lt_zero i)
  | x :: xs, 0, _, hy, hl => by
    have hx := hf x
    simp only [List.getD_cons_zero] at hy
    simp only [List.flatMap_cons, List.set_cons_zero, hy, Nat.zero_mul, Nat.zero_add]
    unfold over
    rw [List.take_append_of_le_length (by omega), List.drop_append_of_le_length (by omega)]
    simp
  | x :: xs, i + 1, h, hy, hl => by
    have hx := hf x
    simp only [List.getD_cons_succ] at hy
    have ih := over_flat hf xs i (by simpa using h) hy hl
    simp only [List.flatMap_cons, List.set_cons_succ, ← ih]
    unfold over
    have e1 : ((i + 1) * sz + off) = (f x).length + (i * sz + off) := by rw [hx, Nat.succ_mul]; omega
    rw [e1, List.take_append, List.drop_append]
    simp only [Nat.add_sub_cancel_left, List.append_assoc, Nat.add_assoc]
    rw [List.take_of_length_le (by omega), List.drop_of_length_le (by omega)]
    simp [Nat.add_sub_cancel_left]
theorem flat_len {α : Type} {f : α → List Value} {sz : Nat} (hf : ∀ a, (f a).length = sz) : ∀ xs : List α, (xs.flatMap f).length = xs.length * sz
  | [] => by simp
  | x :: xs => by rw [List.flatMap_cons, List.length_append, hf, flat_len hf xs, List.length_cons, Nat.succ_mul, Nat.add_comm]
theorem EvW.ldElemOwn {α : Type} {xs : List α} {f : α → List Value} {z : α} {v : Value} {i sz len : Nat} {ee : TypeId} {r : List HP} (hx : ev F x = some (elemP sz v i 0)) (hs : aggB P t = true) (hm : szB P t = some sz) (hpos : Nat.ble 1 sz = true) (hf : ∀ a, (f a).length = sz) (ht : Take (.own ee sz v len (xs.flatMap f)) A r) (hi : i < xs.length) :
    EvW P w0 S0 n F A ⟨dd, .load t x, T, pos, af, g⟩ (.agg (f (xs.getD i z)).toArray) :=
  .pure fun a' w ha hst => by
    obtain ⟨R, hR⟩ := hst.take ht
    have hl : i * sz + 0 + sz ≤ (xs.flatMap f).length := by
      rw [flat_len hf]
      calc i * sz + 0 + sz = (i + 1) * sz := by rw [Nat.add_mul]; omega
        _ ≤ xs.length * sz := Nat.mul_le_mul_right _ hi
    have hg := flat_get (z := z) hf hi
    generalize f (xs.getD i z) = out at hg
    simp [execOp, ha.eval hx, runLoadAggAt hs hm (Nat.le_of_ble_eq_true hpos) (own_row hR) hg hl]
end
end Go.BK
namespace Go.BK
open Go.RowKit Go.MapKept
section
variable {P : Program} {w0 : World} {S0 : BSet} {n : Nat} {F : Fr} {A : List HP} {dd : Option Tmp} {T : TypeId} {pos : String} {af : Array Edge} {x y : Operand} {t ty : TypeId} {g : Option (Nat × Bool)} {ops : Array Oper} {rest : List Oper} {Q : Exit → Act → World → Prop} {d : Tmp}
/-- A map that may be nil. -/
def HP.omap (o : Option Nat) (m : List (Int × Value)) : HP := match o with
  | none => HP.pure (m = [])
  | some b => .imap b m
theorem EvW.lookupOkN {k e : TypeId} {q : IntKind} {a : Int} {z : Value} (hx : ev F x = some (.map none)) (hy : ev F y = some (i64 a)) (hu : P.underlying t = some (.map k e)) (hk : P.underlying k = some (.int q)) (hz : zvB P e = some z) :
    EvW P w0 S0 n F A ⟨dd, .lookup t x y true, T, pos, af, g⟩ (.tuple #[z, .bool false]) :=
  .pure fun a' w ha hst => by
    have hz' := runZv (w := w) hz
    have hf := runFindInt (w := w) (a := a) (es := []) (m := []) hk rfl
    simp [execOp, ha.eval hx, ha.eval hy, Instr.lookup, run_underlying hu, Result.andThen, runCheckInt hk, hf, mfind, hz']
theorem EvW.deleteN {k e T2 : TypeId} {q : IntKind} {a : Int} (hx : ev F x = some (.map none)) (hy : ev F y = some (i64 a)) (hu : P.underlying t = some (.map k e)) (hk : P.underlying k = some (.int q)) :
    EvW P w0 S0 n F A ⟨dd, .call ⟨.builtin .delete, #[x, y], #[t, T2]⟩, T, pos, af, g⟩ (.tuple #[]) :=
  .pure fun a' w ha hst => by
    simp [execOp, resolve, invoke, builtin, ha.eval hx, ha.eval hy, Builtin.delete_, run_underlying hu, Result.andThen, runCheckInt hk]
theorem EffW.delete {k e T2 : TypeId} {q : IntKind} {b : Nat} {m : List (Int × Value)} {a : Int} {A' : List HP} (hx : ev F x = some (.map (some b))) (hy : ev F y = some (i64 a)) (hu : P.underlying t = some (.map k e)) (hk : P.underlying k = some (.int q)) (ht : UpdM b m (mdel a m) A A') :
    EffW P w0 S0 n F A A' ⟨none, .call ⟨.builtin .delete, #[x, y], #[t, T2]⟩, T, pos, af, g⟩ (.tuple #[]) := by
  refine ⟨fun Q K a' w ha hst hK => ?_⟩
  obtain ⟨r, t1, _⟩ := ht.take
  obtain ⟨S, _, es, cl, h2, h3⟩ := hst.take t1
  obtain ⟨es', cl', h4, h5⟩ := runDelete (a := a) (T2 := T2) (T3 := T) hu hk h2 h3
  have hrun : (execOp a'.eval ⟨none, .call ⟨.builtin .delete, #[x, y], #[t, T2]⟩, T, pos, af, g⟩).run P w = .ok (.value (.tuple #[])) { w with heap := w.heap.setIfInBounds b (.map es' cl') } := by
    simp [execOp, resolve, invoke, builtin, ha.eval hx, ha.eval hy, h4]
  unfold Oper.wp
  rw [hrun]
  exact hK _ (hst.updM ht h5)
theorem EffW.mapUpdate {k e : TypeId} {q : IntKind} {b : Nat} {m : List (Int × Value)} {a : Int} {v : Value} {z : Operand} {A' : List HP} (hx : ev F x = some (.map (some b))) (hy : ev F y = some (i64 a)) (hv : ev F z = some v) (hu : P.underlying t = some (.map k e)) (hk : P.underlying k = some (.int q)) (ht : UpdM b m (mput a v m) A A') :
    EffW P w0 S0 n F A A' ⟨none, .mapUpdate t x y z, T, pos, af, g⟩ undef := by
  refine ⟨fun Q K a' w ha hst hK => ?_⟩
  obtain ⟨r, t1, _⟩ := ht.take
  obtain ⟨S, _, es, cl, h2, h3⟩ := hst.take t1
  obtain ⟨es', cl', h4, h5⟩ := runUpdate (a := a) (v := v) hu hk h2 h3
  have hrun : (execOp a'.eval ⟨none, .mapUpdate t x y z, T, pos, af, g⟩).run P w = .ok .skip { w with heap := w.heap.setIfInBounds b (.map es' cl') } := by
    simp [execOp, ha.eval hx, ha.eval hy, ha.eval hv, h4]
  unfold Oper.wp
  rw [hrun]
  exact hK _ (hst.updM ht h5)
end
/-- Cells from a place on, of which the length is that of a list. -/
theorem SubL.all : ∀ (xs r : List Value), SubL (xs ++ r) 0 xs.length xs
  | [], _ => .nil
  | _ :: xs, r => .cons (SubL.all xs r)
theorem SubL.behind {o m : Nat} {out r : List Value} (h : SubL r o m out) : ∀ xs : List Value, SubL (xs ++ r) (o + xs.length) m out
  | [] => h
  | x :: xs => by rw [List.length_cons, ← Nat.add_assoc]; exact .succ (SubL.behind h xs)
theorem SetMany.all : ∀ (ys xs r : List Value), ys.length = xs.length → SetMany (ys ++ r) 0 xs (xs ++ r)
  | [], [], _, _ => .nil
  | [], _ :: _, _, h => by simp at h
  | _ :: _, [], _, h => by simp at h
  | _ :: ys, _ :: xs, r, h => .cons (SetMany.all ys xs r (by simpa using h))
theorem SetMany.behind {o : Nat} {r cs r' : List Value} (h : SetMany r o cs r') : ∀ xs : List Value, SetMany (xs ++ r) (o + xs.length) cs (xs ++ r')
  | [] => h
  | x :: xs => by rw [List.length_cons, ← Nat.add_assoc]; exact .succ (SetMany.behind h xs)
theorem SetMany.one {v : Value} {r : List Value} : ∀ (xs : List Value) (i : Nat), i < xs.length → SetMany (xs ++ r) i [v] (xs.set i v ++ r)
  | [], _, h => by simp at h
  | _ :: xs, 0, _ => .cons .nil
  | _ :: xs, i + 1, h => .succ (SetMany.one xs i (by simpa using h))
theorem getL_app (xs r : List Value) (i : Nat) (h : i < xs.length) : getL (xs ++ r) i = xs[i]? := by rw [getL_eq, List.getElem?_append_left h]
theorem getL_behind (xs r : List Value) (i : Nat) : getL (xs ++ r) (i + xs.length) = getL r i := by rw [getL_eq, getL_eq, List.getElem?_append_right (by omega), Nat.add_sub_cancel]
end Go.BK
