/- The fields of a payload: are they right, and how they are written. -/
import Derived.Test.YtdnpofigagdabaaTeleA
import Derived.Test.YtdnpofigagdabaaPackQ
namespace Go.Proofs.Ytdnpofigagdabaa
open Go.RowKit Go.BK

/-- A field: the cell of its list, the list, how many and how great its numbers are to be. -/
structure Fl where
  q : Nat
  j : Nat
  v : Value
  l : List Int
  n : Int
  most : Int
instance : Inhabited Fl := ⟨⟨0, 0, .slice none 0 0, [], 0, 0⟩⟩
def flC (f : Fl) : List Value := [ptr f.q f.j, i64 f.n, i64 f.most]
def inTo (m x : Int) : Bool := decide (0 ≤ x) && decide (x ≤ m)
def Fl.ok (f : Fl) : Bool := decide ((f.l.length : Int) = f.n) && f.l.all (inTo f.most)
def Fl.Seen (f : Fl) (w : World) (S : BSet) : Prop := (∃ (cs : List Value) (U : TypeId), Sees w S (.blk f.q cs.toArray U) ∧ getL cs f.j = some f.v) ∧ Sees w S (.row 1 f.v f.l.length (f.l.map i64)) ∧ f.l.length ≤ 17592186044416
theorem Fl.Seen.down {f : Fl} {w w' : World} {S S' : BSet} (h : f.Seen w S) (k : ∀ B, Sees w S B → Sees w' S' B) : f.Seen w' S' := by
  obtain ⟨⟨cs, U, h1, h2⟩, h3, h4⟩ := h
  exact ⟨⟨cs, U, k _ h1, h2⟩, k _ h3, h4⟩
theorem all_take {α : Type} (p : α → Bool) (l : List α) (d : α) (i : Nat) (h : i < l.length) : (l.take (i + 1)).all p = ((l.take i).all p && p (l.getD i d)) := by
  rw [List.take_add_one, List.all_append, List.getD_eq_getElem?_getD, List.getElem?_eq_getElem h]
  simp
theorem all_bad {α : Type} {p : α → Bool} {l : List α} {x : α} (h : x ∈ l) (hp : p x = false) : l.all p = false := by
  rw [List.all_eq_false]
  exact ⟨x, h, by simp [hp]⟩
theorem all_got {α : Type} {p : α → Bool} {l : List α} (h : (l.take l.length).all p = true) : l.all p = true := by rwa [List.take_length] at h
theorem getD_in {α : Type} (l : List α) (d : α) (i : Nat) (h : i < l.length) : l.getD i d ∈ l := by
  rw [List.getD_eq_getElem?_getD, List.getElem?_eq_getElem h]
  exact List.getElem_mem h
theorem right_spec (fv : Value) (fs : List Fl) (w : World) (S : BSet) (hS : (sepL []).sat S w) (hf : Sees w S (.row 3 fv fs.length (fs.flatMap flC))) (ha : ∀ f ∈ fs, f.Seen w S) (hl : fs.length ≤ 4) :
    Tri Try.prog 49 #[fv] w S fun u A => u = .bool (fs.all Fl.ok) ∧ A = [] := by
  refine Tri.enter (l := [fv]) Try.func49 rfl Try.ntmps49 rfl [(0, fv)] (subA rfl) hS ?_
  repeat first
    | (apply WL.q; exact rfl; exact rfl; exact rfl; (first | (apply EvW.move; exact rfl) | (apply EvW.assign; exact rfl) | (apply EvW.lenRow; exact rfl; exact UndC.eq; assumption)))
    | refine WC.seq ?_ | refine WC.region ?_ | refine WL.nil ?_ | refine WE.next ?_ | refine WC.block ?_
  refine WC.loopK (σ := Nat) [7, 8] (fun s => [(9, i64 s)]) (fun s => []) (fun s => s ≤ fs.length ∧ (fs.take s).all Fl.ok = true) (fun s => fs.length - s) 0 (by (focus ((repeat (first | exact Pick.nil | (apply Pick.cons; exact rfl))); done))) (by (focus ((repeat (first | exact trivial | (refine ⟨rfl, ?_⟩))); done))) (fun _ h => h.keep (by (focus ((repeat (first | exact TakeL.nil | apply TakeL.cons | exact Take.head | apply Take.tail)); done)))) ⟨Nat.zero_le _, rfl⟩ (fun s hs => ?_)
  obtain ⟨i, rfl⟩ : ∃ q, q = s := ⟨s, rfl⟩
  simp only [List.cons_append, List.nil_append] at hs ⊢
  obtain ⟨hs, hok⟩ := hs
  by_cases hlt : (i : Int) < fs.length
  · have hmem : fs.getD ((i : Nat) : Int).toNat default ∈ fs := getD_in fs default i (by omega)
    have hnext := all_take Fl.ok fs default i (by omega)
    rw [hok, Bool.true_and, show fs.getD i default = fs.getD ((i : Nat) : Int).toNat default from rfl] at hnext
    obtain ⟨⟨cs, U, hb, hc⟩, hr, hL⟩ := ha _ hmem
    repeat first
      | (apply WL.q; exact rfl; exact rfl; exact rfl; (first | (apply EvW.cmpT; exact rfl; exact rfl; exact rfl; omega) | (apply EvW.idxRow; exact rfl; exact rfl; exact UndC.eq; exact SzC.eq; assumption; omega; omega)))
      | refine WC.seq ?_ | refine WC.region ?_ | refine WL.nil ?_ | refine WE.next ?_ | refine WC.block ?_ | refine WC.skip ?_ | refine WC.condT rfl ?_
    (apply WL.q; exact rfl; exact rfl; exact rfl; (apply EvW.ldElem (xs := fs) (z := (default : Fl)) (f := flC); exact rfl; exact AggC.eq; exact SzC.eq; exact rfl; exact fun _ => rfl; assumption; omega))
    try refine WL.wanted rfl rfl rfl ?_
    (apply WL.alloc; exact rfl; exact ZvC.eq; exact rfl; intro x)
    generalize fs.getD ((i : Nat) : Int).toNat default = f at hmem hnext cs U hb hc hr hL
    by_cases hn : (f.l.length : Int) = f.n
    · repeat first
        | refine WC.seq ?_ | refine WL.nil ?_ | refine WE.next ?_ | (apply WL.store; exact rfl; exact rfl; (first | assumption | exact rfl); exact SzC.eq; (first | assumption | exact rfl); (focus ((repeat (first | apply UpdC.head | apply UpdC.tail | exact SetMany.nil | apply SetMany.cons | apply SetMany.succ)); done)))
      repeat refine WC.seq ?_
      apply WC.drawQ Try.mixed
      · (focus ((repeat (first | exact Restr.nil | (apply Restr.keep; exact rfl; exact rfl) | (apply Restr.drop; exact rfl))); done))
      · exact rfl
      · decide +kernel
      · decide +kernel
      · repeat first
          | exact Draws.nil
          | (apply Draws.skip; exact rfl; exact rfl)
          | (apply Draws.q0; exact rfl
             (first | (apply EvW.nilPtr; exact rfl) | (apply EvW.fieldAddr0; exact rfl; exact FldC.eq) | (apply EvW.load; exact rfl; exact ScalC.eq; (focus ((repeat (first | exact Take.head | apply Take.tail)); done)); exact rfl) | (apply EvW.ldSeen; exact rfl; exact ScalC.eq; assumption; (first | exact rfl | assumption)) | (apply EvW.cmpF; exact rfl; exact rfl; exact rfl; omega) | (apply EvW.lenRow; exact rfl; exact UndC.eq; assumption)))
      apply WE.writ
      · (focus ((repeat (first | exact Writ.nil | apply Writ.some | apply Writ.none)); done))
      repeat first
        | (apply WL.q; exact rfl; exact rfl; exact rfl; (first | (apply EvW.move; exact rfl) | (apply EvW.nilPtr; exact rfl) | (apply EvW.fieldAddr0; exact rfl; exact FldC.eq) | (apply EvW.load; exact rfl; exact ScalC.eq; (focus ((repeat (first | exact Take.head | apply Take.tail)); done)); exact rfl) | (apply EvW.ldSeen; exact rfl; exact ScalC.eq; assumption; (first | exact rfl | assumption)) | (apply EvW.lenRow; exact rfl; exact UndC.eq; assumption)))
        | refine WC.seq ?_ | refine WC.region ?_ | refine WL.nil ?_ | refine WE.next ?_ | refine WC.block ?_ | refine WC.skip ?_ | refine WC.condF rfl ?_
      refine WC.loopK (σ := Nat) [4, 7, 8, 9, 24, 25] (fun s => [(26, i64 s)]) (fun s => [.blk x #[ptr f.q f.j, i64 f.n, i64 f.most] 97]) (fun s => s ≤ f.l.length ∧ (f.l.take s).all (inTo f.most) = true) (fun s => f.l.length - s) 0 (by (focus ((repeat (first | exact Pick.nil | (apply Pick.cons; exact rfl))); done))) (by (focus ((repeat (first | exact trivial | (refine ⟨rfl, ?_⟩))); done))) (fun _ h => h.keep (by (focus ((repeat (first | exact TakeL.nil | apply TakeL.cons | exact Take.head | apply Take.tail)); done)))) ⟨Nat.zero_le _, rfl⟩ (fun s hs => ?_)
      obtain ⟨k, rfl⟩ : ∃ q, q = s := ⟨s, rfl⟩
      simp only [List.cons_append, List.nil_append] at hs ⊢
      obtain ⟨hs2, hok2⟩ := hs
      by_cases hlt2 : (k : Int) < f.l.length
      · have hx := getD_in f.l 0 k (by omega)
        have hnext2 := all_take (inTo f.most) f.l 0 k (by omega)
        rw [hok2, Bool.true_and] at hnext2
        by_cases h0 : f.l.getD ((k : Nat) : Int).toNat 0 < 0
        · have hbad : f.ok = false := by
            unfold Fl.ok
            rw [all_bad hx (by unfold inTo; rw [decide_eq_false (show ¬ 0 ≤ f.l.getD k 0 from by have h0' : f.l.getD k 0 < 0 := h0; omega), Bool.false_and]), Bool.and_false]
          repeat first
            | (apply WL.q; exact rfl; exact rfl; exact rfl; (first | (apply EvW.move; exact rfl) | (apply EvW.assign; exact rfl) | (apply EvW.cmpT; exact rfl; exact rfl; exact rfl; omega) | (apply EvW.pickT; exact rfl; exact rfl) | (apply EvW.idxRow; exact rfl; exact rfl; exact UndC.eq; exact SzC.eq; assumption; omega; omega) | (apply EvW.ldInt; exact rfl; exact ScalC.eq; assumption; omega)))
            | refine WC.seq ?_ | refine WC.region ?_ | refine WL.nil ?_ | refine WE.next ?_ | refine WC.block ?_ | refine WC.skip ?_ | refine WC.condT rfl ?_ | refine WC.ret ?_ | refine WE.passRet ?_ | refine WE.outRet ?_ | refine WL.unwanted rfl rfl rfl rfl ?_
          refine WE.bare ?_
          refine WE.ret1 rfl rfl ?_
          exact ⟨by rw [all_bad hmem hbad], rfl⟩
        · by_cases hm : f.l.getD ((k : Nat) : Int).toNat 0 ≤ f.most
          · repeat first
              | (apply WL.q; exact rfl; exact rfl; exact rfl; (first | (apply EvW.move; exact rfl) | (apply EvW.assign; exact rfl) | (apply EvW.fieldAddr0; exact rfl; exact FldC.eq) | (apply EvW.load; exact rfl; exact ScalC.eq; (focus ((repeat (first | exact Take.head | apply Take.tail)); done)); exact rfl) | (apply EvW.cmpT; exact rfl; exact rfl; exact rfl; omega) | (apply EvW.cmpF; exact rfl; exact rfl; exact rfl; omega) | (apply EvW.arN; exact rfl; exact rfl; exact rfl; refine i64_in ?_ ?_ <;> omega) | (apply EvW.pickF; exact rfl; exact rfl) | (apply EvW.idxRow; exact rfl; exact rfl; exact UndC.eq; exact SzC.eq; assumption; omega; omega) | (apply EvW.ldInt; exact rfl; exact ScalC.eq; assumption; omega)))
              | refine WC.seq ?_ | refine WC.region ?_ | refine WL.nil ?_ | refine WE.next ?_ | refine WC.block ?_ | refine WC.skip ?_ | refine WE.out ?_ | refine WC.condT rfl ?_ | refine WC.condF rfl ?_ | refine WL.wanted rfl rfl rfl ?_
            have hgo : (f.l.take (k + 1)).all (inTo f.most) = true := by
              rw [hnext2]
              unfold inTo
              rw [decide_eq_true (show 0 ≤ f.l.getD k 0 from by have h0' : ¬ f.l.getD k 0 < 0 := h0; omega), decide_eq_true (show f.l.getD k 0 ≤ f.most from hm)]
              rfl
            exact WE.again (s := k) ((k + 1)) ⟨by omega, hgo⟩ (by (focus ((repeat (first | exact trivial | (refine ⟨rfl, ?_⟩))); done))) (fun _ h => (by (try simp only []); exact h.keep (by (focus ((repeat (first | exact TakeL.nil | apply TakeL.cons | exact Take.head | apply Take.tail)); done))))) (by (try simp only []); omega)
          · have hbad : f.ok = false := by
              unfold Fl.ok
              rw [all_bad hx (by unfold inTo; rw [decide_eq_false (show ¬ f.l.getD k 0 ≤ f.most from hm), Bool.and_false]), Bool.and_false]
            repeat first
              | (apply WL.q; exact rfl; exact rfl; exact rfl; (first | (apply EvW.move; exact rfl) | (apply EvW.assign; exact rfl) | (apply EvW.fieldAddr0; exact rfl; exact FldC.eq) | (apply EvW.load; exact rfl; exact ScalC.eq; (focus ((repeat (first | exact Take.head | apply Take.tail)); done)); exact rfl) | (apply EvW.cmpT; exact rfl; exact rfl; exact rfl; omega) | (apply EvW.cmpF; exact rfl; exact rfl; exact rfl; omega) | (apply EvW.pickF; exact rfl; exact rfl) | (apply EvW.idxRow; exact rfl; exact rfl; exact UndC.eq; exact SzC.eq; assumption; omega; omega) | (apply EvW.ldInt; exact rfl; exact ScalC.eq; assumption; omega)))
              | refine WC.seq ?_ | refine WC.region ?_ | refine WL.nil ?_ | refine WE.next ?_ | refine WC.block ?_ | refine WC.skip ?_ | refine WC.condT rfl ?_ | refine WC.ret ?_ | refine WE.passRet ?_ | refine WE.outRet ?_ | refine WL.wanted rfl rfl rfl ?_
            refine WE.bare ?_
            refine WE.ret1 rfl rfl ?_
            exact ⟨by rw [all_bad hmem hbad], rfl⟩
      · obtain rfl : k = f.l.length := by omega
        have hgood : f.ok = true := by
          unfold Fl.ok
          rw [decide_eq_true hn, all_got hok2]
          rfl
        repeat first
          | (apply WL.q; exact rfl; exact rfl; exact rfl; (first | (apply EvW.move; exact rfl) | (apply EvW.cmpF; exact rfl; exact rfl; exact rfl; omega) | (apply EvW.arN; exact rfl; exact rfl; exact rfl; refine i64_in ?_ ?_ <;> omega)))
          | refine WC.seq ?_ | refine WC.region ?_ | refine WL.nil ?_ | refine WE.next ?_ | refine WC.exit ?_ | refine WE.pass ?_ | refine WE.hit ?_ | refine WE.out ?_ | refine WC.condF rfl ?_
        refine WE.bare ?_
        exact WE.again (s := i) ((i + 1)) ⟨by omega, by rw [hnext, hgood]⟩ (by (focus ((repeat (first | exact trivial | (refine ⟨rfl, ?_⟩))); done))) (fun _ h => (by (try simp only []); exact h.keep (by (focus ((repeat (first | exact TakeL.nil | apply TakeL.cons | exact Take.head | apply Take.tail)); done))))) (by (try simp only []); omega)
    · have hbad : f.ok = false := by
        unfold Fl.ok
        rw [decide_eq_false hn, Bool.false_and]
      repeat first
        | refine WC.seq ?_ | refine WL.nil ?_ | refine WE.next ?_ | (apply WL.store; exact rfl; exact rfl; (first | assumption | exact rfl); exact SzC.eq; (first | assumption | exact rfl); (focus ((repeat (first | apply UpdC.head | apply UpdC.tail | exact SetMany.nil | apply SetMany.cons | apply SetMany.succ)); done)))
      repeat refine WC.seq ?_
      apply WC.drawQ Try.mixed
      · (focus ((repeat (first | exact Restr.nil | (apply Restr.keep; exact rfl; exact rfl) | (apply Restr.drop; exact rfl))); done))
      · exact rfl
      · decide +kernel
      · decide +kernel
      · repeat first
          | exact Draws.nil
          | (apply Draws.skip; exact rfl; exact rfl)
          | (apply Draws.q0; exact rfl
             (first | (apply EvW.nilPtr; exact rfl) | (apply EvW.fieldAddr0; exact rfl; exact FldC.eq) | (apply EvW.load; exact rfl; exact ScalC.eq; (focus ((repeat (first | exact Take.head | apply Take.tail)); done)); exact rfl) | (apply EvW.ldSeen; exact rfl; exact ScalC.eq; assumption; (first | exact rfl | assumption)) | (apply EvW.cmpT; exact rfl; exact rfl; exact rfl; omega) | (apply EvW.lenRow; exact rfl; exact UndC.eq; assumption)))
      apply WE.writ
      · (focus ((repeat (first | exact Writ.nil | apply Writ.some | apply Writ.none)); done))
      repeat first
        | (apply WL.q; exact rfl; exact rfl; exact rfl; (first | (apply EvW.assign; exact rfl)))
        | refine WC.seq ?_ | refine WC.region ?_ | refine WL.nil ?_ | refine WE.next ?_ | refine WC.condT rfl ?_ | refine WC.ret ?_ | refine WE.passRet ?_ | refine WE.outRet ?_
      refine WE.bare ?_
      refine WE.ret1 rfl rfl ?_
      exact ⟨by rw [all_bad hmem hbad], rfl⟩
  · obtain rfl : i = fs.length := by omega
    repeat first
      | (apply WL.q; exact rfl; exact rfl; exact rfl; (first | (apply EvW.assign; exact rfl) | (apply EvW.cmpF; exact rfl; exact rfl; exact rfl; omega)))
      | refine WC.seq ?_ | refine WC.region ?_ | refine WL.nil ?_ | refine WE.next ?_ | refine WC.exit ?_ | refine WE.pass ?_ | refine WE.hit ?_ | refine WC.condF rfl ?_ | refine WC.ret ?_
    refine WE.ret1 rfl rfl ?_
    exact ⟨by rw [all_got hok], rfl⟩
/-- The bytes of a payload. -/
def pay (kind : Int) (fs : List Fl) : List UInt8 := be 1 kind ++ fs.flatMap fun f => f.l.flatMap (be 1)
def PW.fl (m : PW) (f : Fl) : PW := f.l.foldl (PW.num 1) m
theorem fold_num1 : ∀ (l : List Int) (m : PW), m.e = 0 → (∀ x ∈ l, 0 ≤ x ∧ x < 256) → (m.out.length : Int) + l.length ≤ m.lim → l.foldl (PW.num 1) m = ⟨0, m.out ++ l.flatMap (be 1), m.lim⟩
  | [], m, h, _, _ => by cases m; simp at h; simp [h]
  | x :: l, m, h, hx, hl => by
    have hx0 := hx x (by simp)
    rw [List.length_cons] at hl
    have e1 : PW.num 1 m x = ⟨0, m.out ++ be 1 x, m.lim⟩ := by
      have hd : x.fdiv (2 ^ (8 * 1)) = 0 := by
        rw [Int.fdiv_eq_ediv_of_nonneg x (by decide)]
        exact Int.ediv_eq_zero_of_lt hx0.1 (by simpa using hx0.2)
      unfold PW.num
      rw [if_neg (by rw [hd]; omega)]
      unfold PW.put
      rw [if_neg (by rw [be_length]; omega)]
      simp only [h, ↓reduceIte, PW.add]
    rw [List.foldl_cons, e1, fold_num1 l _ rfl (fun y hy => hx y (by simp [hy])) (by simp only [List.length_append, be_length]; omega)]
    simp
theorem flat1_len : ∀ l : List Int, (l.flatMap (be 1)).length = l.length
  | [] => rfl
  | x :: l => by rw [List.flatMap_cons, List.length_append, be_length, flat1_len l, List.length_cons]; omega
theorem fold_fl : ∀ (fs : List Fl) (m : PW), m.e = 0 → (∀ f ∈ fs, ∀ x ∈ f.l, 0 ≤ x ∧ x < 256) → (m.out.length : Int) + (fs.map fun f => f.l.length).sum ≤ m.lim → fs.foldl PW.fl m = ⟨0, m.out ++ fs.flatMap (fun f => f.l.flatMap (be 1)), m.lim⟩
  | [], m, h, _, _ => by cases m; simp at h; simp [h]
  | f :: fs, m, h, hx, hl => by
    rw [List.map_cons, List.sum_cons] at hl
    have hlen := flat1_len f.l
    have e1 : PW.fl m f = ⟨0, m.out ++ f.l.flatMap (be 1), m.lim⟩ := fold_num1 f.l m h (hx f (by simp)) (by omega)
    rw [List.foldl_cons, e1, fold_fl fs _ rfl (fun g hg => hx g (by simp [hg])) (by simp only [List.length_append, hlen]; omega)]
    simp
theorem ok_all {fs : List Fl} (h : fs.all Fl.ok = true) : ∀ f ∈ fs, (f.l.length : Int) = f.n ∧ ∀ x ∈ f.l, 0 ≤ x ∧ x ≤ f.most := by
  intro f hf
  have := List.all_eq_true.1 h f hf
  unfold Fl.ok at this
  rw [Bool.and_eq_true] at this
  refine ⟨of_decide_eq_true this.1, fun x hx => ?_⟩
  have := List.all_eq_true.1 this.2 x hx
  unfold inTo at this
  rw [Bool.and_eq_true] at this
  exact ⟨of_decide_eq_true this.1, of_decide_eq_true this.2⟩
def sumN (fs : List Fl) : Int := (fs.map Fl.n).sum
theorem sumN_take (fs : List Fl) (d : Fl) (i : Nat) (h : i < fs.length) : sumN (fs.take (i + 1)) = sumN (fs.take i) + (fs.getD i d).n := by
  unfold sumN
  rw [List.take_add_one, List.getD_eq_getElem?_getD, List.getElem?_eq_getElem h, List.map_append, List.sum_append]
  simp only [Option.toList_some, List.map_cons, List.map_nil, List.sum_cons, List.sum_nil, Option.getD_some, Int.add_zero]
theorem sumN_len : ∀ {fs : List Fl}, (∀ f ∈ fs, (f.l.length : Int) = f.n ∧ f.l.length ≤ 17592186044416) → sumN fs = ((fs.map fun f => f.l.length).sum : Nat) ∧ 0 ≤ sumN fs ∧ sumN fs ≤ fs.length * 17592186044416
  | [], _ => by simp [sumN]
  | f :: fs, h => by
    obtain ⟨h1, h2, h3⟩ := sumN_len (fs := fs) fun g hg => h g (by simp [hg])
    have hf := h f (by simp)
    have e : sumN (f :: fs) = f.n + sumN fs := by unfold sumN; simp
    rw [List.map_cons, List.sum_cons, List.length_cons]
    omega
theorem pay_fold (kind : Int) (fs : List Fl) (h : fs.all Fl.ok = true) (hk : 0 ≤ kind ∧ kind < 256) (hm : ∀ f ∈ fs, f.most ≤ 255) (hL : ∀ f ∈ fs, f.l.length ≤ 17592186044416) : fs.foldl PW.fl (PW.num 1 (PW.init (1 + sumN fs)) kind) = ⟨0, pay kind fs, 1 + sumN fs⟩ := by
  have hs := sumN_len fun f hf => ⟨(ok_all h f hf).1, hL f hf⟩
  have e0 := fold_num1 [kind] (PW.init (1 + sumN fs)) rfl (by simp; omega) (by simp [PW.init]; omega)
  rw [List.foldl_cons, List.foldl_nil] at e0
  rw [e0, fold_fl fs _ rfl (fun f hf x hx => by have := (ok_all h f hf).2 x hx; have := hm f hf; omega) (by simp [PW.init, be_length]; omega)]
  simp [PW.init, pay]
  omega
theorem write_spec (kind : Int) (fv : Value) (fs : List Fl) (w : World) (S : BSet) (hS : (sepL []).sat S w) (hf : Sees w S (.row 3 fv fs.length (fs.flatMap flC))) (ha : ∀ f ∈ fs, f.Seen w S) (hl : fs.length ≤ 4) (hk : 0 ≤ kind ∧ kind < 256) (hmost : ∀ f ∈ fs, f.most ≤ 255) :
    Tri Try.prog 29 #[i64 kind, fv] w S fun u A => u = .tuple #[str (if fs.all Fl.ok = true then pay kind fs else []), i64 (if fs.all Fl.ok = true then 0 else 32)] ∧ A = [] := by
  refine Tri.enter (l := [i64 kind, fv]) Try.func29 rfl Try.ntmps29 rfl [(0, i64 kind), (1, fv)] (subA rfl) hS ?_
  have hL : ∀ f ∈ fs, f.l.length ≤ 17592186044416 := fun f hf => (ha f hf).2.2
  repeat first
    | (apply WL.q; exact rfl; exact rfl; exact rfl; (first | (apply EvW.move; exact rfl) | (apply EvW.assign; exact rfl)))
    | refine WC.seq ?_ | refine WC.region ?_ | refine WL.nil ?_ | refine WE.next ?_
  try refine WL.wanted rfl rfl rfl ?_
  apply WL.callA ([])
  · exact rfl
  · exact rfl
  · exact fun w => Try.call49 _ w
  · (focus ((repeat (first | exact TakeL.nil | apply TakeL.cons | exact Take.head | apply Take.tail)); done))
  · exact fun w1 S1 hS1 hs1 ho1 => right_spec fv fs w1 S1 hS1 (hs1 _ hf) (fun f h => (ha f h).down hs1) hl
  rintro _ _ ⟨rfl, rfl⟩
  first | refine WL.app4 ?_ | refine WL.app3 ?_ | refine WL.app2 ?_ | refine WL.app1 ?_ | refine WL.app0 ?_ | skip
  by_cases hok : fs.all Fl.ok = true
  · rw [hok, if_pos rfl, if_pos rfl]
    have hlen := fun f hf => (ok_all hok f hf).1
    have hsum := sumN_len fun f hf => ⟨(ok_all hok f hf).1, hL f hf⟩
    repeat first
      | (apply WL.q; exact rfl; exact rfl; exact rfl; (first | (apply EvW.move; exact rfl) | (apply EvW.assign; exact rfl) | (apply EvW.notT; exact rfl) | (apply EvW.lenRow; exact rfl; exact UndC.eq; assumption)))
      | refine WC.seq ?_ | refine WC.region ?_ | refine WL.nil ?_ | refine WE.next ?_ | refine WC.block ?_ | refine WC.skip ?_ | refine WC.condF rfl ?_
    refine WC.loopK (σ := Nat) [0, 1, 15, 16] (fun s => [(17, i64 s), (6, i64 (1 + sumN (fs.take s)))]) (fun s => []) (fun s => s ≤ fs.length) (fun s => fs.length - s) 0 (by (focus ((repeat (first | exact Pick.nil | (apply Pick.cons; exact rfl))); done))) (by (focus ((repeat (first | exact trivial | (refine ⟨rfl, ?_⟩))); done))) (fun _ h => h.keep (by (focus ((repeat (first | exact TakeL.nil | apply TakeL.cons | exact Take.head | apply Take.tail)); done)))) (Nat.zero_le _) (fun s hs => ?_)
    obtain ⟨i, rfl⟩ : ∃ q, q = s := ⟨s, rfl⟩
    simp only [List.cons_append, List.nil_append] at hs ⊢
    by_cases hlt : (i : Int) < fs.length
    · have hmem : fs.getD ((i : Nat) : Int).toNat default ∈ fs := getD_in fs default i (by omega)
      have hst := sumN_len (fs := fs.take i) fun f hf => ⟨hlen f (List.mem_of_mem_take hf), hL f (List.mem_of_mem_take hf)⟩
      rw [List.length_take_of_le (by omega)] at hst
      have hnx := sumN_take fs default i (by omega)
      have hmn := hlen _ hmem
      have hmL := hL _ hmem
      rw [show fs.getD i default = fs.getD ((i : Nat) : Int).toNat default from rfl] at hnx
      repeat first
        | (apply WL.q; exact rfl; exact rfl; exact rfl; (first | (apply EvW.cmpT; exact rfl; exact rfl; exact rfl; omega) | (apply EvW.idxRow; exact rfl; exact rfl; exact UndC.eq; exact SzC.eq; assumption; omega; omega)))
        | refine WC.seq ?_ | refine WC.region ?_ | refine WL.nil ?_ | refine WE.next ?_ | refine WC.block ?_ | refine WC.skip ?_ | refine WC.condT rfl ?_
      (apply WL.q; exact rfl; exact rfl; exact rfl; (apply EvW.ldElem (xs := fs) (z := (default : Fl)) (f := flC); exact rfl; exact AggC.eq; exact SzC.eq; exact rfl; exact fun _ => rfl; assumption; omega))
      try refine WL.wanted rfl rfl rfl ?_
      (apply WL.alloc; exact rfl; exact ZvC.eq; exact rfl; intro x)
      generalize fs.getD ((i : Nat) : Int).toNat default = f at hmem hnx hmn hmL
      repeat first
        | (apply WL.q; exact rfl; exact rfl; exact rfl; (first | (apply EvW.move; exact rfl) | (apply EvW.assign; exact rfl) | (apply EvW.fieldAddr0; exact rfl; exact FldC.eq) | (apply EvW.load; exact rfl; exact ScalC.eq; (focus ((repeat (first | exact Take.head | apply Take.tail)); done)); exact rfl) | (apply EvW.arN; exact rfl; exact rfl; exact rfl; refine i64_in ?_ ?_ <;> omega)))
        | refine WC.region ?_ | refine WL.nil ?_ | refine WE.next ?_ | refine WE.out ?_ | (apply WL.store; exact rfl; exact rfl; (first | assumption | exact rfl); exact SzC.eq; (first | assumption | exact rfl); (focus ((repeat (first | apply UpdC.head | apply UpdC.tail | exact SetMany.nil | apply SetMany.cons | apply SetMany.succ)); done)))
      refine WE.bare ?_
      rw [show 1 + sumN (fs.take i) + f.n = 1 + sumN (fs.take (i + 1)) from by omega]
      exact WE.again (s := i) ((i + 1)) (by omega) (by (focus ((repeat (first | exact trivial | (refine ⟨rfl, ?_⟩))); done))) (fun _ h => (by (try simp only []); exact h.keep (by (focus ((repeat (first | exact TakeL.nil | apply TakeL.cons | exact Take.head | apply Take.tail)); done))))) (by (try simp only []); omega)
    · obtain rfl : i = fs.length := by omega
      rw [List.take_length]
      have hfits : ∀ r, (PW.num 1 (PW.init (1 + sumN fs)) kind).fits r := fits_num 1 _ _ fun r => ⟨by simp only [PW.init]; omega, by simp only [PW.init]; omega, .inl ⟨by simp only [PW.init]; omega, by simp [PW.init]⟩⟩
      have hfold : ∀ r, (PW.init (1 + sumN fs)).fits r := fun r => ⟨by simp only [PW.init]; omega, by simp only [PW.init]; omega, .inl ⟨by simp only [PW.init]; omega, by simp [PW.init]⟩⟩
      repeat first
        | (apply WL.q; exact rfl; exact rfl; exact rfl; (first | (apply EvW.move; exact rfl) | (apply EvW.cmpF; exact rfl; exact rfl; exact rfl; omega)))
        | refine WC.seq ?_ | refine WC.region ?_ | refine WL.nil ?_ | refine WE.next ?_ | refine WC.exit ?_ | refine WE.pass ?_ | refine WE.hit ?_ | refine WC.condF rfl ?_
      try refine WL.wanted rfl rfl rfl ?_
      apply WL.callT
      · exact rfl
      · exact rfl
      · exact fun w1 S1 hS1 hs1 ho1 => new_spec (1 + sumN fs) w1 S1 hS1
      · exact fun w => Try.call34 _ w
      · (focus ((repeat (first | exact TakeL.nil | apply TakeL.cons | exact Take.head | apply Take.tail)); done))
      rintro _ _ ⟨b, rfl, rfl⟩
      first | refine WL.app4 ?_ | refine WL.app3 ?_ | refine WL.app2 ?_ | refine WL.app1 ?_ | refine WL.app0 ?_ | skip
      repeat first
        | (apply WL.q; exact rfl; exact rfl; exact rfl; (first | (apply EvW.move; exact rfl) | (apply EvW.assign; exact rfl)))
        | refine WC.seq ?_ | refine WC.region ?_ | refine WL.nil ?_ | refine WE.next ?_
      try refine WL.wanted rfl rfl rfl ?_
      (apply WL.buildSlice; exact rfl; exact UndC.eq; exact SzC.eq; exact ZvC.eq; exact rfl; exact rfl; exact rfl; ((focus ((repeat (first | exact Flat.nil | (apply Flat.one; (first | exact rfl | assumption)) | (apply Flat.cons; exact rfl; exact rfl))); done))); exact rfl; exact rfl; intro c1)
      try refine WL.wanted rfl rfl rfl ?_
      apply WL.callA ([.own 5 1 (Value.slice none 0 0) (PW.init (1 + sumN fs)).out.length ((PW.init (1 + sumN fs)).out.map byt), .blk b #[i64 (PW.init (1 + sumN fs)).e, Value.slice none 0 0, i64 (PW.init (1 + sumN fs)).lim] 102])
      · exact rfl
      · exact rfl
      · exact fun w => Try.call35 _ w
      · (focus ((repeat (first | exact TakeL.nil | apply TakeL.cons | exact Take.head | apply Take.tail)); done))
      · exact fun w1 S1 hS1 hs1 ho1 => byte_spec b _ _ (PW.init (1 + sumN fs)) [kind] w1 S1 hS1 ((ho1 _ _ .head).blkRow rfl (fun k u h => by simpa using h) (by simp)) (hfold _) (by simp)
      rintro _ _ ⟨rfl, v1, rfl⟩
      first | refine WL.app4 ?_ | refine WL.app3 ?_ | refine WL.app2 ?_ | refine WL.app1 ?_ | refine WL.app0 ?_ | skip
      repeat first
        | (apply WL.q; exact rfl; exact rfl; exact rfl; (first | (apply EvW.move; exact rfl) | (apply EvW.lenRow; exact rfl; exact UndC.eq; assumption)))
        | refine WC.seq ?_ | refine WC.region ?_ | refine WL.nil ?_ | refine WE.next ?_ | refine WC.block ?_
      refine WC.loopK (σ := Nat × Value) [9, 32, 33] (fun s => [(34, i64 s.1)]) (fun s => [.own 5 1 (s.2) ((fs.take s.1).foldl PW.fl (PW.num 1 (PW.init (1 + sumN fs)) kind)).out.length (((fs.take s.1).foldl PW.fl (PW.num 1 (PW.init (1 + sumN fs)) kind)).out.map byt), .blk b #[i64 ((fs.take s.1).foldl PW.fl (PW.num 1 (PW.init (1 + sumN fs)) kind)).e, s.2, i64 ((fs.take s.1).foldl PW.fl (PW.num 1 (PW.init (1 + sumN fs)) kind)).lim] 102]) (fun s => s.1 ≤ fs.length) (fun s => fs.length - s.1) (0, v1) (by (focus ((repeat (first | exact Pick.nil | (apply Pick.cons; exact rfl))); done))) (by (focus ((repeat (first | exact trivial | (refine ⟨rfl, ?_⟩))); done))) (fun _ h => h.keep (by (focus ((repeat (first | exact TakeL.nil | apply TakeL.cons | exact Take.head | apply Take.tail)); done)))) (Nat.zero_le _) (fun s hs => ?_)
      obtain ⟨j, v⟩ := s
      simp only [List.cons_append, List.nil_append] at hs ⊢
      by_cases hlt2 : (j : Int) < fs.length
      · have hmem : fs.getD ((j : Nat) : Int).toNat default ∈ fs := getD_in fs default j (by omega)
        have hfl := foldl_take PW.fl fs default (PW.num 1 (PW.init (1 + sumN fs)) kind) j (by omega)
        have hfj : ∀ r, ((fs.take j).foldl PW.fl (PW.num 1 (PW.init (1 + sumN fs)) kind)).fits r := fits_all (fun m f h => fits_all (fits_num 1) f.l h) _ hfits
        rw [show fs.getD j default = fs.getD ((j : Nat) : Int).toNat default from rfl] at hfl
        obtain ⟨⟨cs, U, hb, hc⟩, hr, hL1⟩ := ha _ hmem
        repeat first
          | (apply WL.q; exact rfl; exact rfl; exact rfl; (first | (apply EvW.cmpT; exact rfl; exact rfl; exact rfl; omega) | (apply EvW.idxRow; exact rfl; exact rfl; exact UndC.eq; exact SzC.eq; assumption; omega; omega)))
          | refine WC.seq ?_ | refine WC.region ?_ | refine WL.nil ?_ | refine WE.next ?_ | refine WC.block ?_ | refine WC.skip ?_ | refine WC.condT rfl ?_
        (apply WL.q; exact rfl; exact rfl; exact rfl; (apply EvW.ldElem (xs := fs) (z := (default : Fl)) (f := flC); exact rfl; exact AggC.eq; exact SzC.eq; exact rfl; exact fun _ => rfl; assumption; omega))
        try refine WL.wanted rfl rfl rfl ?_
        (apply WL.alloc; exact rfl; exact ZvC.eq; exact rfl; intro x)
        generalize fs.getD ((j : Nat) : Int).toNat default = f at hmem hfl cs U hb hc hr hL1
        generalize (fs.take j).foldl PW.fl (PW.num 1 (PW.init (1 + sumN fs)) kind) = M at hfl hfj
        repeat first
          | (apply WL.q; exact rfl; exact rfl; exact rfl; (first | (apply EvW.move; exact rfl) | (apply EvW.nilPtr; exact rfl) | (apply EvW.fieldAddr0; exact rfl; exact FldC.eq) | (apply EvW.load; exact rfl; exact ScalC.eq; (focus ((repeat (first | exact Take.head | apply Take.tail)); done)); exact rfl) | (apply EvW.ldSeen; exact rfl; exact ScalC.eq; assumption; (first | exact rfl | assumption))))
          | refine WC.region ?_ | refine WL.nil ?_ | refine WE.next ?_ | (apply WL.store; exact rfl; exact rfl; (first | assumption | exact rfl); exact SzC.eq; (first | assumption | exact rfl); (focus ((repeat (first | apply UpdC.head | apply UpdC.tail | exact SetMany.nil | apply SetMany.cons | apply SetMany.succ)); done)))
        try refine WL.wanted rfl rfl rfl ?_
        apply WL.callA ([.own 5 1 (v) (M).out.length ((M).out.map byt), .blk b #[i64 (M).e, v, i64 (M).lim] 102])
        · exact rfl
        · exact rfl
        · exact fun w => Try.call35 _ w
        · (focus ((repeat (first | exact TakeL.nil | apply TakeL.cons | exact Take.head | apply Take.tail)); done))
        · exact fun w1 S1 hS1 hs1 ho1 => byte_spec b v _ M f.l w1 S1 hS1 (hs1 _ hr) (hfj _) (by omega)
        rintro _ _ ⟨rfl, v2, rfl⟩
        first | refine WL.app4 ?_ | refine WL.app3 ?_ | refine WL.app2 ?_ | refine WL.app1 ?_ | refine WL.app0 ?_ | skip
        repeat first
          | (apply WL.q; exact rfl; exact rfl; exact rfl; (first | (apply EvW.move; exact rfl) | (apply EvW.arN; exact rfl; exact rfl; exact rfl; refine i64_in ?_ ?_ <;> omega)))
          | refine WC.region ?_ | refine WL.nil ?_ | refine WE.next ?_ | refine WE.out ?_
        exact WE.again (s := (j, v)) ((j + 1, v2)) (by simp only []; omega) (by (focus ((repeat (first | exact trivial | (refine ⟨rfl, ?_⟩))); done))) (fun _ h => (by (try simp only []); rw [hfl]; exact h.keep (by (focus ((repeat (first | exact TakeL.nil | apply TakeL.cons | exact Take.head | apply Take.tail)); done))))) (by (try simp only []); omega)
      · obtain rfl : j = fs.length := by omega
        rw [List.take_length, pay_fold kind fs hok hk hmost hL]
        repeat first
          | (apply WL.q; exact rfl; exact rfl; exact rfl; (first | (apply EvW.move; exact rfl) | (apply EvW.cmpF; exact rfl; exact rfl; exact rfl; omega)))
          | refine WC.seq ?_ | refine WC.region ?_ | refine WL.nil ?_ | refine WE.next ?_ | refine WC.exit ?_ | refine WE.pass ?_ | refine WE.hit ?_ | refine WC.condF rfl ?_
        try refine WL.wanted rfl rfl rfl ?_
        apply WL.callA ([.own 5 1 (v) (PW.mk 0 (pay kind fs) (1 + sumN fs)).out.length ((PW.mk 0 (pay kind fs) (1 + sumN fs)).out.map byt), .blk b #[i64 (PW.mk 0 (pay kind fs) (1 + sumN fs)).e, v, i64 (PW.mk 0 (pay kind fs) (1 + sumN fs)).lim] 102])
        · exact rfl
        · exact rfl
        · exact fun w => Try.call37 _ w
        · (focus ((repeat (first | exact TakeL.nil | apply TakeL.cons | exact Take.head | apply Take.tail)); done))
        · exact fun w1 S1 hS1 hs1 ho1 => done_spec b v (PW.mk 0 (pay kind fs) (1 + sumN fs)) w1 S1 hS1
        rintro _ _ ⟨rfl, rfl⟩
        first | refine WL.app4 ?_ | refine WL.app3 ?_ | refine WL.app2 ?_ | refine WL.app1 ?_ | refine WL.app0 ?_ | skip
        rw [show (PW.mk 0 (pay kind fs) (1 + sumN fs)).said = pay kind fs from rfl]
        repeat first
          | (apply WL.q; exact rfl; exact rfl; exact rfl; (first | (apply EvW.assign; exact rfl) | (apply EvW.extract; exact rfl; exact rfl)))
          | refine WL.nil ?_ | refine WE.next ?_ | refine WC.ret ?_
        refine WE.bare ?_
        refine WE.retN (l := [4, 5]) rfl rfl rfl ?_
        exact ⟨rfl, rfl⟩
  · rw [show fs.all Fl.ok = false by simpa using hok, if_neg (by decide), if_neg (by decide)]
    repeat first
      | (apply WL.q; exact rfl; exact rfl; exact rfl; (first | (apply EvW.assign; exact rfl) | (apply EvW.notF; exact rfl)))
      | refine WC.seq ?_ | refine WC.region ?_ | refine WL.nil ?_ | refine WE.next ?_ | refine WC.condT rfl ?_ | refine WC.ret ?_ | refine WE.passRet ?_
    refine WE.retN (l := [4, 5]) rfl rfl rfl ?_
    exact ⟨rfl, rfl⟩
end Go.Proofs.Ytdnpofigagdabaa
