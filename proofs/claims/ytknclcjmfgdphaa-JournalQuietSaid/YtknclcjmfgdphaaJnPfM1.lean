/- Own lemmas: the texts LibA, LibB, LibC, LibD, LibE, LibF, LibG, LibH, LibI, LibJ, LibK, LibL, Facts, PackA. -/
import Derived.ChangeMaps5
import Derived.ChangeSlices
import Derived.Laws.BytesString
import Derived.Laws.IdiomStrings
import Derived.Orders
import Derived.ProofKit
import Derived.SizedLaws
import Derived.SliceStrings
import Derived.Test.YtknclcjmfgdphaaRows
import Derived.WalkKit
import Derived.WalkLawsBesides
import Derived.WalkSpells
namespace Go.BK
open Go.RowKit
abbrev BSet := Nat → Prop
/-- An assertion on a set of blocks. -/
structure HP where
  sat : BSet → World → Prop
  loc : ∀ {S : BSet} {w w' : World}, sat S w → (∀ b, S b → w'.heap[b]? = w.heap[b]?) → sat S w'
  bnd : ∀ {S : BSet} {w : World} {b : Nat}, sat S w → S b → b < w.heap.size
def HP.emp : HP := ⟨fun S _ => ∀ b, ¬ S b, fun h _ => h, fun h hb => (h _ hb).elim⟩
def HP.star (A B : HP) : HP where
  sat S w := ∃ S1 S2 : BSet, (∀ b, S b ↔ S1 b ∨ S2 b) ∧ (∀ b, S1 b → ¬ S2 b) ∧ A.sat S1 w ∧ B.sat S2 w
  loc := fun ⟨S1, S2, hu, hd, h1, h2⟩ hk => ⟨S1, S2, hu, hd, A.loc h1 fun b hb => hk b ((hu b).2 (.inl hb)), B.loc h2 fun b hb => hk b ((hu b).2 (.inr hb))⟩
  bnd := fun ⟨_, _, hu, _, h1, h2⟩ hb => ((hu _).1 hb).elim (fun h => A.bnd h1 h) (fun h => B.bnd h2 h)
def HP.pure (φ : Prop) : HP := ⟨fun S _ => (∀ b, ¬ S b) ∧ φ, fun h _ => h, fun h hb => (h.1 _ hb).elim⟩
def HP.ex {α : Type} (f : α → HP) : HP := ⟨fun S w => ∃ x, (f x).sat S w, fun ⟨x, h⟩ hk => ⟨x, (f x).loc h hk⟩, fun ⟨x, h⟩ hb => (f x).bnd h hb⟩
/-- Block b is a row of cells c of element type T, none of which is frozen. -/
def blkAt (b : Nat) (c : Array Value) (T : TypeId) (w : World) : Prop :=
  ∃ lo hi, w.heap[b]? = some (.cells c T (lo, hi)) ∧ ∀ o, o < c.size → ¬ (lo ≤ o ∧ o < hi)
theorem lt_of_get {α : Type} {a : Array α} {b : Nat} {x : α} (h : a[b]? = some x) : b < a.size := by
  rw [Array.getElem?_eq_some_iff] at h; exact h.1
def HP.blk (b : Nat) (c : Array Value) (T : TypeId) : HP where
  sat S w := (∀ x, S x ↔ x = b) ∧ blkAt b c T w
  loc := fun ⟨h1, lo, hi, h2, h3⟩ hk => ⟨h1, lo, hi, by rw [hk b ((h1 b).2 rfl)]; exact h2, h3⟩
  bnd := fun {_ _ x} ⟨h1, _, _, h2, _⟩ hb => by rw [(h1 x).1 hb]; exact lt_of_get h2
def sepL : List HP → HP
  | [] => .emp
  | A :: r => .star A (sepL r)
theorem HP.sat_congr {A : HP} {S S' : BSet} {w : World} (h : A.sat S w) (e : ∀ b, S b ↔ S' b) : A.sat S' w := by
  have : S = S' := funext fun b => propext (e b)
  rw [← this]; exact h
theorem star_comm {A B : HP} {S : BSet} {w : World} (h : (HP.star A B).sat S w) : (HP.star B A).sat S w := by
  obtain ⟨S1, S2, hu, hd, h1, h2⟩ := h
  exact ⟨S2, S1, fun b => (hu b).trans Or.comm, fun b h2 h1 => hd b h1 h2, h2, h1⟩
theorem star_assoc {A B D : HP} {S : BSet} {w : World} (h : (HP.star (HP.star A B) D).sat S w) : (HP.star A (HP.star B D)).sat S w := by
  obtain ⟨S1, S2, hu, hd, ⟨S3, S4, hu', hd', h1, h2⟩, h3⟩ := h
  refine ⟨S3, fun b => S4 b ∨ S2 b, fun b => ?_, fun b h3 h => ?_, h1, S4, S2, fun b => Iff.rfl, fun b h4 h2 => hd b ((hu' b).2 (.inr h4)) h2, h2, h3⟩
  · rw [hu, hu']; exact or_assoc
  · rcases h with h | h
    · exact hd' b h3 h
    · exact hd b ((hu' b).2 (.inl h3)) h
theorem star_assoc' {A B D : HP} {S : BSet} {w : World} (h : (HP.star A (HP.star B D)).sat S w) : (HP.star (HP.star A B) D).sat S w :=
  star_comm (star_assoc (star_comm (star_assoc (star_comm h))))
theorem star_mono {A B A' B' : HP} {S : BSet} {w w' : World} (h : (HP.star A B).sat S w) (ha : ∀ S, A.sat S w → A'.sat S w') (hb : ∀ S, B.sat S w → B'.sat S w') : (HP.star A' B').sat S w' := by
  obtain ⟨S1, S2, hu, hd, h1, h2⟩ := h
  exact ⟨S1, S2, hu, hd, ha _ h1, hb _ h2⟩
theorem star_swap {A B D : HP} {S : BSet} {w : World} (h : (HP.star A (HP.star B D)).sat S w) : (HP.star B (HP.star A D)).sat S w :=
  star_assoc (star_mono (star_assoc' h) (fun _ h => star_comm h) fun _ h => h)
theorem star_emp {A : HP} {S : BSet} {w : World} (h : A.sat S w) : (HP.star A .emp).sat S w :=
  ⟨S, fun _ => False, fun b => by simp, fun _ _ h => h, h, fun _ h => h⟩
theorem star_emp' {A : HP} {S : BSet} {w : World} (h : (HP.star A .emp).sat S w) : A.sat S w := by
  obtain ⟨S1, S2, hu, _, h1, h2⟩ := h
  exact HP.sat_congr h1 fun b => by rw [hu]; simp [h2 b]
/-- x is one of the list; r is what is left. -/
inductive Take (x : HP) : List HP → List HP → Prop
  | head {r : List HP} : Take x (x :: r) r
  | tail {y : HP} {r r' : List HP} : Take x r r' → Take x (y :: r) (y :: r')
theorem Take.star {x : HP} {A r : List HP} (t : Take x A r) {S : BSet} {w : World} (h : (sepL A).sat S w) : (HP.star x (sepL r)).sat S w := by
  induction t generalizing S with
  | head => exact h
  | tail _ ih => exact star_swap (star_mono h (fun _ h => h) fun _ h => ih h)
theorem Take.unstar {x : HP} {A r : List HP} (t : Take x A r) {S : BSet} {w : World} (h : (HP.star x (sepL r)).sat S w) : (sepL A).sat S w := by
  induction t generalizing S with
  | head => exact h
  | tail _ ih => exact star_mono (star_swap h) (fun _ h => h) fun _ h => ih h
inductive TakeL : List HP → List HP → List HP → Prop
  | nil {A : List HP} : TakeL [] A A
  | cons {x : HP} {xs A A' A'' : List HP} : Take x A A' → TakeL xs A' A'' → TakeL (x :: xs) A A''
theorem TakeL.star {xs A r : List HP} (t : TakeL xs A r) {S : BSet} {w : World} (h : (sepL A).sat S w) : (HP.star (sepL xs) (sepL r)).sat S w := by
  induction t generalizing S with
  | nil => exact star_comm (star_emp h)
  | cons t _ ih => exact star_assoc' (star_mono (t.star h) (fun _ h => h) fun _ h => ih h)
theorem sepL_append {A B : List HP} {S : BSet} {w : World} (h : (HP.star (sepL A) (sepL B)).sat S w) : (sepL (A ++ B)).sat S w := by
  induction A generalizing S with
  | nil => exact star_emp' (star_comm h)
  | cons x A ih => exact star_mono (star_assoc h) (fun _ h => h) fun _ h => ih h
theorem sepL_unappend {A B : List HP} {S : BSet} {w : World} (h : (sepL (A ++ B)).sat S w) : (HP.star (sepL A) (sepL B)).sat S w := by
  induction A generalizing S with
  | nil => exact star_comm (star_emp h)
  | cons x A ih => exact star_assoc' (star_mono h (fun _ h => h) fun _ h => ih h)
theorem TakeL.unstar {xs A r : List HP} (t : TakeL xs A r) {S : BSet} {w : World} (h : (HP.star (sepL xs) (sepL r)).sat S w) : (sepL A).sat S w := by
  induction t generalizing S with
  | nil => exact star_emp' (star_comm h)
  | cons t _ ih => exact t.unstar (star_mono (star_assoc h) (fun _ h => h) fun _ h => ih h)
/-- Old memory outside S is as it was; the streams too; nothing has gone. -/
structure Ext (S : BSet) (w w' : World) : Prop where
  os : w'.os = w.os
  tape : w'.tape = w.tape
  output : w'.output = w.output
  size : w.heap.size ≤ w'.heap.size
  keep : ∀ b, b < w.heap.size → ¬ S b → w'.heap[b]? = w.heap[b]?
theorem Ext.refl (S : BSet) (w : World) : Ext S w w := ⟨rfl, rfl, rfl, Nat.le_refl _, fun _ _ _ => rfl⟩
/-- A turn inside what is owned is a turn of the whole. -/
theorem Ext.step {S0 S : BSet} {w0 w w' : World} (h : Ext S0 w0 w) (k : Ext S w w') (hs : ∀ b, S b → S0 b ∨ w0.heap.size ≤ b) : Ext S0 w0 w' :=
  ⟨k.os.trans h.os, k.tape.trans h.tape, k.output.trans h.output, Nat.le_trans h.size k.size, fun b hb hn =>
    (k.keep b (Nat.lt_of_lt_of_le hb h.size) fun hS => (hs b hS).elim hn (fun h => by omega)).trans (h.keep b hb hn)⟩
theorem Ext.below {w w' : World} (h : Ext (fun _ => False) w w') : Below w.heap.size w w' :=
  ⟨h.os, h.tape, h.output, h.size, fun b hb => h.keep b hb (fun h => h)⟩
/-- The state of a call that began in w0 and was handed the blocks S0. -/
def St (w0 : World) (S0 : BSet) (A : List HP) (w : World) : Prop :=
  ∃ S : BSet, (sepL A).sat S w ∧ Ext S0 w0 w ∧ ∀ b, S b → S0 b ∨ w0.heap.size ≤ b
theorem St.start {w0 : World} {S0 : BSet} {A : List HP} (h : (sepL A).sat S0 w0) : St w0 S0 A w0 := ⟨S0, h, .refl _ _, fun _ h => .inl h⟩
theorem St.bare (w : World) : St w (fun _ => False) [] w := .start (fun _ h => h)
/-- Phi is seen outside of what is owned: it stays, whatever the call does. -/
def Sees (w : World) (S : BSet) (A : HP) : Prop := ∃ R : BSet, A.sat R w ∧ ∀ b, R b → ¬ S b
theorem Sees.at {w0 w : World} {S0 : BSet} {A : HP} {L : List HP} (h : Sees w0 S0 A) (st : St w0 S0 L w) : ∃ R, A.sat R w := by
  obtain ⟨R, h1, h2⟩ := h
  obtain ⟨S, _, hx, _⟩ := st
  exact ⟨R, A.loc h1 fun b hb => hx.keep b (A.bnd h1 hb) (h2 b hb)⟩
theorem Sees.down {w0 w : World} {S0 S1 S : BSet} {A : HP} (h : Sees w0 S0 A) (hx : Ext S0 w0 w) (hs : ∀ b, S b → S0 b ∨ w0.heap.size ≤ b) (hsub : ∀ b, S1 b → S b) : Sees w S1 A := by
  obtain ⟨R, h1, h2⟩ := h
  refine ⟨R, A.loc h1 fun b hb => hx.keep b (A.bnd h1 hb) (h2 b hb), fun b hb h => ?_⟩
  rcases hs b (hsub b h) with h | h
  · exact h2 b hb h
  · have := A.bnd h1 hb; omega
section steps
variable {w0 : World} {S0 : BSet} {A : List HP} {w w' : World}
theorem St.turn (h : St w0 S0 A w) {A' : List HP} (hx : ∀ S, (sepL A).sat S w → ∃ S', (sepL A').sat S' w' ∧ Ext S w w' ∧ ∀ b, S' b → S b ∨ w.heap.size ≤ b) : St w0 S0 A' w' := by
  obtain ⟨S, h1, h2, h3⟩ := h
  obtain ⟨S', h4, h5, h6⟩ := hx S h1
  refine ⟨S', h4, h2.step h5 h3, fun b hb => ?_⟩
  rcases h6 b hb with h | h
  · exact h3 b h
  · exact .inr (Nat.le_trans h2.size h)
theorem St.same (h : St w0 S0 A w) (hh : w'.heap = w.heap) (ho : w'.os = w.os) (ht : w'.tape = w.tape) (hu : w'.output = w.output) : St w0 S0 A w' :=
  h.turn fun S hs => ⟨S, (sepL A).loc hs fun b _ => by rw [hh], ⟨ho, ht, hu, by rw [hh]; exact Nat.le_refl _, fun b _ _ => by rw [hh]⟩, fun b h => .inl h⟩
theorem St.drew (h : St w0 S0 A w) (n : Nat) : St w0 S0 A { w with drawn := n } := h.same rfl rfl rfl rfl
theorem St.mono (h : St w0 S0 A w) {A' : List HP} (hx : ∀ S w, (sepL A).sat S w → (sepL A').sat S w) : St w0 S0 A' w :=
  h.turn fun S hs => ⟨S, hx S w hs, .refl _ _, fun _ h => .inl h⟩
theorem St.drop {x : HP} {r : List HP} (h : St w0 S0 A w) (t : Take x A r) : St w0 S0 r w :=
  h.turn fun S hs => by
    obtain ⟨S1, S2, hu, _, _, h2⟩ := t.star hs
    exact ⟨S2, h2, .refl _ _, fun b hb => .inl ((hu b).2 (.inr hb))⟩
theorem St.take {x : HP} {r : List HP} (h : St w0 S0 A w) (t : Take x A r) : ∃ S, x.sat S w := by
  obtain ⟨S, h1, _, _⟩ := h
  obtain ⟨S1, S2, _, _, h1, _⟩ := t.star h1
  exact ⟨S1, h1⟩
theorem St.blk {b : Nat} {c : Array Value} {T : TypeId} {r : List HP} (h : St w0 S0 A w) (t : Take (.blk b c T) A r) : blkAt b c T w := by
  obtain ⟨S, h⟩ := h.take t; exact h.2
theorem blkAt.cell {b o : Nat} {c : Array Value} {T : TypeId} {v : Value} (h : blkAt b c T w) (hc : c[o]? = some v) : w.cell? ⟨b, o, none⟩ = some v := by
  obtain ⟨lo, hi, h, _⟩ := h
  simp [World.cell?, h, hc]
/-- The cells of a block turn. -/
inductive Upd (b : Nat) (T : TypeId) (c c' : Array Value) : List HP → List HP → Prop
  | head {r : List HP} : Upd b T c c' (.blk b c T :: r) (.blk b c' T :: r)
  | tail {y : HP} {r r' : List HP} : Upd b T c c' r r' → Upd b T c c' (y :: r) (y :: r')
theorem Upd.take {b : Nat} {T : TypeId} {c c' : Array Value} {A A' : List HP} (u : Upd b T c c' A A') : ∃ r, Take (.blk b c T) A r ∧ Take (.blk b c' T) A' r := by
  induction u with
  | head => exact ⟨_, .head, .head⟩
  | tail _ ih => obtain ⟨r, h1, h2⟩ := ih; exact ⟨_, .tail h1, .tail h2⟩
theorem St.write {b : Nat} {T : TypeId} {c c' : Array Value} {A' : List HP} (h : St w0 S0 A w) (u : Upd b T c c' A A')
    (hw : ∀ lo hi, w.heap[b]? = some (.cells c T (lo, hi)) → (∀ o, o < c.size → ¬ (lo ≤ o ∧ o < hi)) → w' = { w with heap := w.heap.setIfInBounds b (.cells c' T (lo, hi)) }) (hsz : c'.size = c.size) : St w0 S0 A' w' := by
  obtain ⟨r, t1, t2⟩ := u.take
  refine h.turn fun S hs => ?_
  obtain ⟨S1, S2, hu, hd, ⟨h1, lo, hi, h2, h3⟩, h4⟩ := t1.star hs
  have hb := lt_of_get h2
  rw [hw lo hi h2 h3]
  refine ⟨S, t2.unstar ⟨S1, S2, hu, hd, ⟨h1, lo, hi, by simp [Array.getElem?_setIfInBounds_self_of_lt hb], by rw [hsz]; exact h3⟩, (sepL r).loc h4 fun x hx => ?_⟩, ⟨rfl, rfl, rfl, by simp, fun x _ hx => ?_⟩, fun _ h => .inl h⟩
  · have hne : b ≠ x := fun e => hd x ((h1 x).2 e.symm) hx
    simp [Array.getElem?_setIfInBounds_ne hne]
  · have hne : b ≠ x := fun e => hx ((hu x).2 (.inl ((h1 x).2 e.symm)))
    simp [Array.getElem?_setIfInBounds_ne hne]
theorem St.setCell {b o : Nat} {T : TypeId} {c : Array Value} {A' : List HP} {v : Value} (h : St w0 S0 A w) (u : Upd b T c (c.setIfInBounds o v) A A') : St w0 S0 A' (w.setCell ⟨b, o, none⟩ v) :=
  h.write u (fun lo hi hh _ => by
    have hb := lt_of_get hh
    have hg : w.heap[b] = .cells c T (lo, hi) := by rw [Array.getElem?_eq_getElem hb] at hh; exact Option.some.inj hh
    simp only [World.setCell, Option.isSome_none, Bool.false_eq_true, ↓reduceIte]
    congr 1
    apply Array.ext_getElem?
    intro i
    rw [Array.getElem?_modify, Array.getElem?_setIfInBounds]
    by_cases e : b = i
    · subst e; simp [hb, hg]
    · simp [e]) (by simp)
/-- A new block. -/
theorem St.new (h : St w0 S0 A w) (o : Obj) {x : HP} (hx : ∀ w1 : World, w1.heap[w.heap.size]? = some o → x.sat (fun b => b = w.heap.size) w1) : St w0 S0 (x :: A) (w.alloc o) := by
  refine h.turn fun S hs => ?_
  have hk : ∀ b, b < w.heap.size → (w.alloc o).heap[b]? = w.heap[b]? := fun b hb => Below.heap_alloc w o b hb
  refine ⟨fun b => b = w.heap.size ∨ S b, ⟨_, S, fun b => Iff.rfl, fun b e hb => ?_, hx _ (show (w.heap.push o)[w.heap.size]? = some o by simp), (sepL A).loc hs fun b hb => hk b ((sepL A).bnd hs hb)⟩,
    ⟨rfl, rfl, rfl, (show w.heap.size ≤ (w.heap.push o).size by simp), fun b hb _ => hk b hb⟩, fun b hb => hb.elim (fun e => .inr (by omega)) .inl⟩
  have := (sepL A).bnd hs hb
  omega
theorem St.newBlk (h : St w0 S0 A w) (c : Array Value) (T : TypeId) : St w0 S0 (.blk w.heap.size c T :: A) (w.alloc (.cells c T)) :=
  h.new _ fun _ h1 => ⟨fun _ => Iff.rfl, 0, 0, h1, fun o _ h => by omega⟩
end steps
end Go.BK
namespace Go.BK
open Go.RowKit
theorem beqF {a b : Nat} (h : a ≠ b) : Nat.beq a b = false := by
  cases hb : Nat.beq a b with
  | false => rfl
  | true => exact (h (Nat.eq_of_beq_eq_true hb)).elim
abbrev Fr := List (Nat × Value)
def Fr.get : Fr → Nat → Option Value
  | [], _ => none
  | (s, v) :: r, t => bif Nat.beq s t then some v else Fr.get r t
def ev (F : Fr) : Operand → Option Value
  | .tmp t => F.get t
  | .const v => some v
  | .global g => some (.pointer (some ⟨g, 0, none⟩))
  | .func f => some (.func (.func f) #[] #[])
def evs (F : Fr) : List Operand → Option (List Value)
  | [] => some []
  | x :: r => match ev F x with
    | some v => match evs F r with
      | some vs => some (v :: vs)
      | none => none
    | none => none
structure Agr (n : Nat) (F : Fr) (a : Act) : Prop where
  defers : a.defers = []
  size : a.tmps.size = n
  get : ∀ t v, F.get t = some v → a.tmps[t]? = some v
theorem Agr.eval {n : Nat} {F : Fr} {a : Act} {x : Operand} {v : Value} (h : Agr n F a) (he : ev F x = some v) : a.eval x = v := by
  cases x with
  | tmp t => simp only [ev] at he; simp [Act.eval, h.get t v he]
  | const u => simpa [ev, Act.eval] using he
  | global g => simpa [ev, Act.eval] using he
  | func f => simpa [ev, Act.eval] using he
theorem Agr.put {n : Nat} {F : Fr} {a : Act} {d : Nat} (h : Agr n F a) (hd : d < n) (v : Value) : Agr n ((d, v) :: F) (a.put (some d) v) := by
  refine ⟨h.defers, by simp [Act.put, h.size], fun t u ht => ?_⟩
  simp only [Act.put, Array.getElem?_setIfInBounds]
  simp only [Fr.get] at ht
  by_cases e : d = t
  · subst e; simp at ht; simp [h.size, hd, ht]
  · have : Nat.beq d t = false := beqF e
    rw [this] at ht
    simp [e, h.get t u ht]
/-- Every entry of the first is one of the second. -/
def Sub : Fr → Fr → Prop
  | [], _ => True
  | (t, v) :: r, F => F.get t = some v ∧ Sub r F
theorem Sub.get {F F' : Fr} (h : Sub F' F) {t : Nat} {v : Value} (hv : F'.get t = some v) : F.get t = some v := by
  induction F' with
  | nil => simp [Fr.get] at hv
  | cons e r ih =>
    obtain ⟨s, u⟩ := e
    simp only [Fr.get] at hv
    by_cases e : s = t
    · subst e; simp at hv; subst hv; exact h.1
    · have : Nat.beq s t = false := beqF e
      rw [this] at hv
      exact ih h.2 hv
theorem Agr.sub {n : Nat} {F F' : Fr} {a : Act} (h : Agr n F a) (s : Sub F' F) : Agr n F' a := ⟨h.defers, h.size, fun t v ht => h.get t v (s.get ht)⟩
/-- The frame of a call's arguments. -/
def argFr : Nat → List Value → Fr
  | _, [] => []
  | i, v :: r => (i, v) :: argFr (i + 1) r
theorem argFr_get {l : List Value} {i t : Nat} {v : Value} (h : (argFr i l).get t = some v) : i ≤ t ∧ l[t - i]? = some v := by
  induction l generalizing i with
  | nil => simp [argFr, Fr.get] at h
  | cons u r ih =>
    simp only [argFr, Fr.get] at h
    by_cases e : i = t
    · subst e; simp at h; subst h; simp
    · have : Nat.beq i t = false := beqF e
      rw [this] at h
      obtain ⟨h1, h2⟩ := ih h
      refine ⟨by omega, ?_⟩
      rw [show t - i = (t - (i + 1)) + 1 from by omega]
      simpa using h2
theorem subA {l : List Value} {F0 : Fr} (h : argFr 0 l = F0) : ∀ t v, F0.get t = some v → l[t]? = some v := by
  intro t v hv
  subst h
  simpa using (argFr_get hv).2
/-- The operation answers v, and leaves what is owned as it is. -/
structure EvW (P : Program) (w0 : World) (S0 : BSet) (n : Nat) (F : Fr) (A : List HP) (o : Oper) (v : Value) : Prop where
  go : ∀ (Q : Exit → Act → World → Prop) (K : Act → World → Prop) (a : Act) (w : World), Agr n F a → St w0 S0 A w → (∀ w', St w0 S0 A w' → K (a.put o.dst v) w') → o.wp P a w K Q
structure WL (P : Program) (w0 : World) (S0 : BSet) (n : Nat) (ops : Array Oper) (Q : Exit → Act → World → Prop) (rest : List Oper) (F : Fr) (A : List HP) : Prop where
  go : ∀ a w, Agr n F a → St w0 S0 A w → wpList P ops Q rest a w
structure WC (P : Program) (w0 : World) (S0 : BSet) (n : Nat) (c : Code) (Q : Exit → Act → World → Prop) (F : Fr) (A : List HP) : Prop where
  go : ∀ a w, Agr n F a → St w0 S0 A w → c.wp P Q a w
structure WE (w0 : World) (S0 : BSet) (n : Nat) (Q : Exit → Act → World → Prop) (e : Exit) (F : Fr) (A : List HP) : Prop where
  go : ∀ a w, Agr n F a → St w0 S0 A w → Q e a w
section
variable {P : Program} {w0 : World} {S0 : BSet} {n : Nat} {F : Fr} {A : List HP} {ops : Array Oper} {Q : Exit → Act → World → Prop} {rest : List Oper} {o : Oper} {v : Value}
theorem EvW.pure (h : ∀ a w, Agr n F a → St w0 S0 A w → (execOp a.eval o).run P w = .ok (.value v) w) : EvW P w0 S0 n F A o v :=
  ⟨fun Q K a w ha hs hk => by unfold Oper.wp; rw [h a w ha hs]; exact hk w hs⟩
theorem WL.step (h : ∀ a w, Agr n F a → St w0 S0 A w → ∀ K : Act → World → Prop, (∀ a' w', wpList P ops Q rest a' w' → K a' w') → o.wp P a w K Q) (hg : o.guard = none) : WL P w0 S0 n ops Q (o :: rest) F A :=
  ⟨fun a w ha hs => wpList_plain hg (h a w ha hs)⟩
/-- A quiet operation. -/
theorem WL.q {d : Nat} (hg : o.guard = none) (hd : o.dst = some d) (hn : Nat.blt d n = true) (h : EvW P w0 S0 n F A o v) (k : WL P w0 S0 n ops Q rest ((d, v) :: F) A) : WL P w0 S0 n ops Q (o :: rest) F A :=
  .step (fun a w ha hs K hK => h.go Q K a w ha hs fun w' hs' => hK _ _ (by rw [hd]; exact k.go _ _ (ha.put (by simpa using hn) v) hs')) hg
/-- A guarded operation that is wanted. -/
theorem WL.wanted {g : Nat × Bool} {go : Oper} {gd : Nat} {dst : Option Tmp} {op : Op} {T : TypeId} {pos : String} {af : Array Edge} (hj : ops[g.1]? = some go) (hgd : go.dst = some gd) (hv : F.get gd = some (.bool g.2))
    (k : WL P w0 S0 n ops Q (⟨dst, op, T, pos, af, none⟩ :: rest) F A) : WL P w0 S0 n ops Q (⟨dst, op, T, pos, af, some g⟩ :: rest) F A :=
  ⟨fun a w ha hs => by
    have h1 := k.go a w ha hs
    have hy : yielded ops a.tmps g.1 = some g.2 := by simp [yielded, hj, hgd, ha.get gd _ hv]
    unfold wpList at h1 ⊢
    simp only [Region.wanted, hy, beq_self_eq_true, ↓reduceIte] at h1 ⊢
    exact h1⟩
/-- A guarded operation that isn't. -/
theorem WL.unwanted {g : Nat × Bool} {go : Oper} {gd d : Nat} {op : Op} {T : TypeId} {pos : String} {af : Array Edge} (hj : ops[g.1]? = some go) (hgd : go.dst = some gd) (hv : F.get gd = some (.bool (!g.2))) (hn : Nat.blt d n = true)
    (k : WL P w0 S0 n ops Q rest ((d, undef) :: F) A) : WL P w0 S0 n ops Q (⟨some d, op, T, pos, af, some g⟩ :: rest) F A :=
  ⟨fun a w ha hs => by
    have hy : yielded ops a.tmps g.1 = some (!g.2) := by simp [yielded, hj, hgd, ha.get gd _ hv]
    unfold wpList
    rw [if_neg (by cases h : g.2 <;> simp [Region.wanted, hy, h])]
    exact k.go _ _ (ha.put (by simpa using hn) undef) hs⟩
theorem WL.unwanted0 {g : Nat × Bool} {go : Oper} {gd : Nat} {op : Op} {T : TypeId} {pos : String} {af : Array Edge} (hj : ops[g.1]? = some go) (hgd : go.dst = some gd) (hv : F.get gd = some (.bool (!g.2)))
    (k : WL P w0 S0 n ops Q rest F A) : WL P w0 S0 n ops Q (⟨none, op, T, pos, af, some g⟩ :: rest) F A :=
  ⟨fun a w ha hs => by
    have hy : yielded ops a.tmps g.1 = some (!g.2) := by simp [yielded, hj, hgd, ha.get gd _ hv]
    unfold wpList
    rw [if_neg (by cases h : g.2 <;> simp [Region.wanted, hy, h])]
    exact k.go _ _ ha hs⟩
theorem WL.nil (h : WE w0 S0 n Q .normal F A) : WL P w0 S0 n ops Q [] F A := ⟨fun a w ha hs => wpList_nil (h.go a w ha hs)⟩
theorem WL.sub {F' : Fr} (s : Sub F' F) (h : WL P w0 S0 n ops Q rest F' A) : WL P w0 S0 n ops Q rest F A := ⟨fun a w ha hs => h.go a w (ha.sub s) hs⟩
theorem WL.conv {A' : List HP} (c : ∀ w, St w0 S0 A w → St w0 S0 A' w) (h : WL P w0 S0 n ops Q rest F A') : WL P w0 S0 n ops Q rest F A := ⟨fun a w ha hs => h.go a w ha (c w hs)⟩
variable {c x y : Code}
theorem WC.seq (h : WC P w0 S0 n x (Exit.then (y.wp P Q) Q) F A) : WC P w0 S0 n (.seq x y) Q F A := ⟨fun a w ha hs => wp_seq (h.go a w ha hs)⟩
theorem WC.region {id : Nat} {l : List Oper} (h : WL P w0 S0 n l.toArray Q l F A) : WC P w0 S0 n (.region id l.toArray false) Q F A := ⟨fun a w ha hs => wp_region_lit (h.go a w ha hs)⟩
theorem WC.skip (h : WE w0 S0 n Q .normal F A) : WC P w0 S0 n .skip Q F A := ⟨fun a w ha hs => wp_skip (h.go a w ha hs)⟩
theorem WC.exit {id : Nat} (h : WE w0 S0 n Q (.exit id) F A) : WC P w0 S0 n (.exit id) Q F A := ⟨fun a w ha hs => wp_exit (h.go a w ha hs)⟩
theorem WC.ret (h : WE w0 S0 n Q .ret F A) : WC P w0 S0 n .ret Q F A := ⟨fun a w ha hs => wp_ret (h.go a w ha hs)⟩
theorem WC.block {id : Nat} (h : WC P w0 S0 n c (Exit.inBlock id Q) F A) : WC P w0 S0 n (.block id c) Q F A := ⟨fun a w ha hs => wp_block (h.go a w ha hs)⟩
theorem WC.condT {z : Operand} (hv : ev F z = some (.bool true)) (h : WC P w0 S0 n x Q F A) : WC P w0 S0 n (.cond z x y) Q F A := ⟨fun a w ha hs => wp_cond_true (ha.eval hv) (h.go a w ha hs)⟩
theorem WC.condF {z : Operand} (hv : ev F z = some (.bool false)) (h : WC P w0 S0 n y Q F A) : WC P w0 S0 n (.cond z x y) Q F A := ⟨fun a w ha hs => wp_cond_false (ha.eval hv) (h.go a w ha hs)⟩
theorem WC.cond {z : Operand} {b : Bool} (hv : ev F z = some (.bool b)) (h1 : b = true → WC P w0 S0 n x Q F A) (h2 : b = false → WC P w0 S0 n y Q F A) : WC P w0 S0 n (.cond z x y) Q F A :=
  ⟨fun a w ha hs => wp_cond_split (ha.eval hv) (fun h => (h1 h).go a w ha hs) (fun h => (h2 h).go a w ha hs)⟩
theorem WC.condP {z : Operand} {p : Prop} [Decidable p] (hv : ev F z = some (.bool (decide p))) (h1 : p → WC P w0 S0 n x Q F A) (h2 : ¬ p → WC P w0 S0 n y Q F A) : WC P w0 S0 n (.cond z x y) Q F A :=
  .cond hv (fun h => h1 (of_decide_eq_true h)) (fun h => h2 (of_decide_eq_false h))
theorem WC.sub {F' : Fr} (s : Sub F' F) (h : WC P w0 S0 n c Q F' A) : WC P w0 S0 n c Q F A := ⟨fun a w ha hs => h.go a w (ha.sub s) hs⟩
theorem WC.conv {A' : List HP} (k : ∀ w, St w0 S0 A w → St w0 S0 A' w) (h : WC P w0 S0 n c Q F A') : WC P w0 S0 n c Q F A := ⟨fun a w ha hs => h.go a w ha (k w hs)⟩
theorem WE.next (h : WC P w0 S0 n y Q F A) : WE w0 S0 n (Exit.then (y.wp P Q) Q) .normal F A := ⟨fun a w ha hs => h.go a w ha hs⟩
theorem WE.pass {K : Act → World → Prop} {id : Nat} (h : WE w0 S0 n Q (.exit id) F A) : WE w0 S0 n (Exit.then K Q) (.exit id) F A := ⟨fun a w ha hs => h.go a w ha hs⟩
theorem WE.passRet {K : Act → World → Prop} (h : WE w0 S0 n Q .ret F A) : WE w0 S0 n (Exit.then K Q) .ret F A := ⟨fun a w ha hs => h.go a w ha hs⟩
theorem WE.hit {id : Nat} (h : WE w0 S0 n Q .normal F A) : WE w0 S0 n (Exit.inBlock id Q) (.exit id) F A := ⟨fun a w ha hs => by simp only [Exit.inBlock, ↓reduceIte]; exact h.go a w ha hs⟩
theorem WE.miss {id id' : Nat} (hne : Nat.beq id' id = false) (h : WE w0 S0 n Q (.exit id') F A) : WE w0 S0 n (Exit.inBlock id Q) (.exit id') F A :=
  ⟨fun a w ha hs => by have : id' ≠ id := Nat.ne_of_beq_eq_false hne
                       simp only [Exit.inBlock, this, ↓reduceIte]; exact h.go a w ha hs⟩
theorem WE.out {id : Nat} (h : WE w0 S0 n Q .normal F A) : WE w0 S0 n (Exit.inBlock id Q) .normal F A := ⟨fun a w ha hs => h.go a w ha hs⟩
theorem WE.outRet {id : Nat} (h : WE w0 S0 n Q .ret F A) : WE w0 S0 n (Exit.inBlock id Q) .ret F A := ⟨fun a w ha hs => h.go a w ha hs⟩
theorem WE.conv {e : Exit} {A' : List HP} (k : ∀ w, St w0 S0 A w → St w0 S0 A' w) (h : WE w0 S0 n Q e F A') : WE w0 S0 n Q e F A := ⟨fun a w ha hs => h.go a w ha (k w hs)⟩
/-- A loop: s is what turns; Fi, Ai say how the frame and the memory hang on it. -/
theorem WC.loop {σ : Type} (Fi : σ → Fr) (Ai : σ → List HP) (I : σ → Prop) (μ : σ → Nat) (s0 : σ) (hF : Sub (Fi s0) F) (hA : ∀ w, St w0 S0 A w → St w0 S0 (Ai s0) w) (hI : I s0)
    (round : ∀ s, I s → WC P w0 S0 n c (Exit.then (fun a' w' => ∃ s', I s' ∧ Agr n (Fi s') a' ∧ St w0 S0 (Ai s') w' ∧ μ s' < μ s) Q) (Fi s) (Ai s)) : WC P w0 S0 n (.loop c) Q F A := by
  refine ⟨fun a w ha hs => ?_⟩
  have key : ∀ a w (h : ∃ m s, I s ∧ Agr n (Fi s) a ∧ St w0 S0 (Ai s) w ∧ μ s = m), ∃ m, (∃ s, I s ∧ Agr n (Fi s) a ∧ St w0 S0 (Ai s) w ∧ μ s = m) ∧ ∀ s, I s ∧ Agr n (Fi s) a ∧ St w0 S0 (Ai s) w → m ≤ μ s := by
    intro a w ⟨m, h⟩
    induction m using Nat.strongRecOn with
    | _ m ih =>
      by_cases hm : ∃ m', m' < m ∧ ∃ s, I s ∧ Agr n (Fi s) a ∧ St w0 S0 (Ai s) w ∧ μ s = m'
      · obtain ⟨m', hlt, h'⟩ := hm; exact ih m' hlt h'
      · refine ⟨m, h, fun s ⟨h1, h2, h3⟩ => Nat.le_of_not_lt fun hlt => hm ⟨μ s, hlt, s, h1, h2, h3, rfl⟩⟩
  have le : ∀ a w, ∃ m, (∀ s, I s ∧ Agr n (Fi s) a ∧ St w0 S0 (Ai s) w → m ≤ μ s) ∧ ((∃ s, I s ∧ Agr n (Fi s) a ∧ St w0 S0 (Ai s) w) → ∃ s, I s ∧ Agr n (Fi s) a ∧ St w0 S0 (Ai s) w ∧ μ s = m) := by
    intro a w
    by_cases h : ∃ s, I s ∧ Agr n (Fi s) a ∧ St w0 S0 (Ai s) w
    · obtain ⟨s, h1, h2, h3⟩ := h
      obtain ⟨m, h4, h5⟩ := key a w ⟨_, s, h1, h2, h3, rfl⟩
      exact ⟨m, h5, fun _ => h4⟩
    · exact ⟨0, fun _ _ => Nat.zero_le _, fun h' => (h h').elim⟩
  refine wp_loop (fun a w => ∃ s, I s ∧ Agr n (Fi s) a ∧ St w0 S0 (Ai s) w) (fun a w => Classical.choose (le a w)) ⟨s0, hI, ha.sub hF, hA w hs⟩ ?_
  intro a w h
  obtain ⟨s, h1, h2, h3, h4⟩ := (Classical.choose_spec (le a w)).2 h
  refine Code.wp_mono ?_ ((round s h1).go a w h2 h3)
  intro e a' w' q
  cases e with
  | normal =>
    obtain ⟨s', h5, h6, h7, h8⟩ := q
    exact ⟨⟨s', h5, h6, h7⟩, by
      have := (Classical.choose_spec (le a' w')).1 s' ⟨h5, h6, h7⟩
      show Classical.choose (le a' w') < Classical.choose (le a w)
      omega⟩
  | _ => exact q
theorem WE.again {σ : Type} {Fi : σ → Fr} {Ai : σ → List HP} {I : σ → Prop} {μ : σ → Nat} {s : σ} (s' : σ) (hI : I s') (hF : Sub (Fi s') F) (hA : ∀ w, St w0 S0 A w → St w0 S0 (Ai s') w) (hm : μ s' < μ s) :
    WE w0 S0 n (Exit.then (fun a' w' => ∃ s', I s' ∧ Agr n (Fi s') a' ∧ St w0 S0 (Ai s') w' ∧ μ s' < μ s) Q) .normal F A :=
  ⟨fun _ w ha hs => ⟨s', hI, ha.sub hF, hA w hs, hm⟩⟩
/-- What a call that returns leaves. -/
def RetSt (w0 : World) (S0 : BSet) (R : Value → List HP → Prop) : Ending → World → Prop := fun e w' => ∃ v A', e = .returned v ∧ R v A' ∧ St w0 S0 A' w'
structure Tri (P : Program) (f : FuncId) (args : Array Value) (w0 : World) (S0 : BSet) (R : Value → List HP → Prop) : Prop where
  go : Calls P f args w0 (RetSt w0 S0 R)
theorem Tri.mono {f : FuncId} {args : Array Value} {R R' : Value → List HP → Prop} (h : Tri P f args w0 S0 R) (k : ∀ v A, R v A → R' v A) : Tri P f args w0 S0 R' :=
  ⟨h.go.mono fun _ _ ⟨v, A', h1, h2, h3⟩ => ⟨v, A', h1, k v A' h2, h3⟩⟩
theorem Tri.enter {f : FuncId} {fn : Func} {l : List Value} {R : Value → List HP → Prop} (hf : P.funcs[f]? = some fn) (hb : fn.body = some c) (hn : fn.ntmps = n) (hl : Nat.ble l.length n = true) (F0 : Fr) (hF : ∀ t v, F0.get t = some v → l[t]? = some v)
    (hA : (sepL A).sat S0 w0) (h : WC P w0 S0 n c (bodyPost P fn (RetSt w0 S0 R)) F0 A) : Tri P f l.toArray w0 S0 R :=
  ⟨calls_of_wp hf hb (h.go _ _ ⟨rfl, by
    have h1 := Nat.le_of_ble_eq_true hl
    show (l.toArray ++ Array.replicate (fn.ntmps - l.toArray.size) undef).size = n
    rw [Array.size_append, Array.size_replicate, List.size_toArray, hn]; omega, fun t v ht => by
    have := hF t v ht
    have hlt : t < l.length := by rw [List.getElem?_eq_some_iff] at this; exact this.1
    show (l.toArray ++ Array.replicate (fn.ntmps - l.toArray.size) undef)[t]? = some v
    rw [Array.getElem?_append, if_pos (by simpa using hlt)]; simpa using this⟩ (.start hA))⟩
theorem WE.ret0 {fn : Func} {R : Value → List HP → Prop} (hr : fn.results = #[]) (h : R (.tuple #[]) A) : WE w0 S0 n (bodyPost P fn (RetSt w0 S0 R)) .ret F A :=
  ⟨fun _ _ ha hs => bodyPost_ret (results_none hr _ _ _) ha.defers ⟨_, _, rfl, h, hs⟩⟩
theorem WE.end0 {fn : Func} {R : Value → List HP → Prop} (hr : fn.results = #[]) (h : R (.tuple #[]) A) : WE w0 S0 n (bodyPost P fn (RetSt w0 S0 R)) .normal F A :=
  ⟨fun _ _ ha hs => bodyPost_end (results_none hr _ _ _) ha.defers ⟨_, _, rfl, h, hs⟩⟩
theorem WE.ret1 {fn : Func} {t : Nat} {R : Value → List HP → Prop} (hr : fn.results = #[.tmp t]) (hv : F.get t = some v) (h : R v A) : WE w0 S0 n (bodyPost P fn (RetSt w0 S0 R)) .ret F A :=
  ⟨fun a w ha hs => bodyPost_ret (results_tmp hr _ _ _) ha.defers ⟨_, _, rfl, by rw [Array.getD_eq_getD_getElem?, ha.get t v hv]; exact h, hs⟩⟩
theorem WE.ret2 {fn : Func} {t t' : Nat} {v' : Value} {R : Value → List HP → Prop} (hr : fn.results = #[.tmp t, .tmp t']) (hv : F.get t = some v) (hv' : F.get t' = some v') (h : R (.tuple #[v, v']) A) : WE w0 S0 n (bodyPost P fn (RetSt w0 S0 R)) .ret F A :=
  ⟨fun a w ha hs => bodyPost_ret (results_tmp2 hr _ _ _) ha.defers ⟨_, _, rfl, by rw [Array.getD_eq_getD_getElem?, ha.get t v hv, Array.getD_eq_getD_getElem?, ha.get t' v' hv']; exact h, hs⟩⟩
def gets (F : Fr) : List Nat → Option (List Value)
  | [] => some []
  | t :: r => match F.get t with
    | some v => match gets F r with
      | some vs => some (v :: vs)
      | none => none
    | none => none
theorem mapM_pure_run (g : ResultVar → Sem Value) (h : Nat → Value) (hg : ∀ t, g (.tmp t) = Pure.pure (h t)) (w : World) : ∀ l : List Nat, Sem.run P (List.mapM (g ∘ ResultVar.tmp) l) w = .ok (l.map h) w := by
  intro l
  induction l with
  | nil => rfl
  | cons t r ih => simp [List.mapM_cons, ih, hg]
theorem results_tmps {fn : Func} {l : List Nat} (hr : fn.results = (l.map ResultVar.tmp).toArray) (hl : l.length ≠ 1) (tmps : Array Value) (w : World) : (results fn tmps).run P w = .ok (.tuple (l.map fun t => tmps.getD t undef).toArray) w := by
  unfold results
  rw [hr]
  simp
  rw [mapM_pure_run _ (fun t => tmps[t]?.getD undef) (fun _ => rfl)]
  simp [hl]
theorem WE.retN {fn : Func} {l : List Nat} {vs : List Value} {R : Value → List HP → Prop} (hr : fn.results = (l.map ResultVar.tmp).toArray) (hl : Nat.beq l.length 1 = false) (hv : gets F l = some vs) (h : R (.tuple vs.toArray) A) : WE w0 S0 n (bodyPost P fn (RetSt w0 S0 R)) .ret F A :=
  ⟨fun a w ha hs => bodyPost_ret (results_tmps hr (Nat.ne_of_beq_eq_false hl) _ _) ha.defers ⟨_, _, rfl, by
    have : ∀ (l : List Nat) (vs : List Value), gets F l = some vs → (l.map fun t => a.tmps.getD t undef) = vs := by
      intro l
      induction l with
      | nil => intro vs h; simpa [gets] using h
      | cons t r ih =>
        intro vs h
        simp only [gets] at h
        cases ht : F.get t with
        | none => simp [ht] at h
        | some u =>
          cases hr : gets F r with
          | none => simp [ht, hr] at h
          | some us =>
            simp [ht, hr] at h
            subst h
            simp [Array.getD_eq_getD_getElem?, ha.get t u ht, ← ih us hr]
    rw [this l vs hv]; exact h, hs⟩⟩
/-- A call whose contract is known. -/
theorem WL.call {d : Nat} {f : FuncId} {args : List Operand} {ats : Array TypeId} {T : TypeId} {pos : String} {af : Array Edge} {vals : List Value} {A1 A2 : List HP} {R : Value → List HP → Prop}
    (hn : Nat.blt d n = true) (hargs : evs F args = some vals) (hcall : ∀ w, (callFunc f vals.toArray).run P w = .ok (.enter f vals.toArray) w) (ht : TakeL A1 A A2)
    (hspec : ∀ w S, (sepL A1).sat S w → (∀ B, Sees w0 S0 B → Sees w S B) → (∀ B r, Take B A2 r → Sees w S B) → Tri P f vals.toArray w S R)
    (k : ∀ v A', R v A' → WL P w0 S0 n ops Q rest ((d, v) :: F) (A' ++ A2)) :
    WL P w0 S0 n ops Q (⟨some d, .call ⟨.value (.func f), args.toArray, ats⟩, T, pos, af, none⟩ :: rest) F A := by
  refine .step (fun a w ha hs K hK => ?_) rfl
  have hvals : args.map a.eval = vals := by
    have : ∀ (l : List Operand) (vs : List Value), evs F l = some vs → l.map a.eval = vs := by
      intro l
      induction l with
      | nil => intro vs h; simpa [evs] using h
      | cons t r ih =>
        intro vs h
        simp only [evs] at h
        cases ht : ev F t with
        | none => simp [ht] at h
        | some u =>
          cases hr : evs F r with
          | none => simp [ht, hr] at h
          | some us =>
            simp [ht, hr] at h
            subst h
            simp [ha.eval ht, ih us hr]
    exact this _ _ hargs
  obtain ⟨S, h1, h2, h3⟩ := hs
  obtain ⟨S1, S2, hu, hdis, h4, h5⟩ := ht.star h1
  have hsp := (hspec w S1 h4 (fun B hB => hB.down h2 h3 fun b hb => (hu b).2 (.inl hb)) (fun B r tB => by
    obtain ⟨S3, S4, hu', hd', h6, h7⟩ := tB.star h5
    exact ⟨S3, h6, fun b hb hb' => hdis b hb' ((hu' b).2 (.inl hb))⟩)).go
  have hrun : (execOp a.eval ⟨some d, .call ⟨.value (.func f), args.toArray, ats⟩, T, pos, af, none⟩).run P w = .ok (.enter f vals.toArray) w := by
    simp [execOp, resolve, Act.eval, Deferred.ofValue, invoke, hvals, hcall]
  unfold Oper.wp
  rw [hrun]
  refine hsp.mono ?_
  rintro e w' ⟨v, A', rfl, hR, S', h6, h7, h8⟩
  refine hK _ _ ((k v A' hR).go _ _ (ha.put (by simpa using hn) v) ?_)
  have hext : Ext S w w' := ⟨h7.os, h7.tape, h7.output, h7.size, fun b hb hnb => h7.keep b hb fun h => hnb ((hu b).2 (.inl h))⟩
  refine ⟨fun b => S' b ∨ S2 b, sepL_append ⟨S', S2, fun _ => Iff.rfl, fun b hb hb2 => ?_, h6, (sepL A2).loc h5 fun b hb => h7.keep b ((sepL A2).bnd h5 hb) fun h => hdis b h hb⟩, h2.step hext h3, fun b hb => ?_⟩
  · rcases h8 b hb with h | h
    · exact hdis b h hb2
    · have := (sepL A2).bnd h5 hb2; omega
  · rcases hb with hb | hb
    · rcases h8 b hb with h | h
      · exact h3 b ((hu b).2 (.inl h))
      · exact .inr (Nat.le_trans h2.size h)
    · exact h3 b ((hu b).2 (.inr hb))
end
end Go.BK
namespace Go.BK
open Go.RowKit
def scalB (P : Program) (t : TypeId) : Bool :=
  match P.underlying t with
  | some (.struct _) | some (.array _ _) | none => false
  | some _ => true
def aggB (P : Program) (t : TypeId) : Bool :=
  match P.underlying t with
  | some (.struct _) | some (.array _ _) => true
  | _ => false
def szB (P : Program) (t : TypeId) : Option Nat := (P.info? t).map (·.size)
def byB (P : Program) (t : TypeId) : Option Nat := (P.info? t).map (·.bytes)
def zvB (P : Program) (t : TypeId) : Option Value := (P.info? t).bind (·.zero)
/-- The offset of a field that has cells. -/
def fieldB (P : Program) (s i : Nat) : Option Nat :=
  match P.underlying s with
  | some (.struct fs) => match fs[i]? with
    | some f => if P.cellsOf f.type = 0 then none else some f.offset
    | none => none
  | _ => none
/-- The places and sizes of a struct's fields. -/
def structB (P : Program) (t : TypeId) : Option (List (Nat × Nat)) :=
  match P.underlying t with
  | some (.struct fs) => if fs.toList.all fun f => (szB P f.type).isSome then some (fs.toList.map fun f => (f.offset, (szB P f.type).getD 0)) else none
  | _ => none
class UndC (P : Program) (t : TypeId) (d : outParam TypeDesc) : Prop where eq : P.underlying t = some d
class ScalC (P : Program) (t : TypeId) : Prop where eq : scalB P t = true
class AggC (P : Program) (t : TypeId) : Prop where eq : aggB P t = true
class SzC (P : Program) (t : TypeId) (k : outParam Nat) : Prop where eq : szB P t = some k
class ByC (P : Program) (t : TypeId) (k : outParam Nat) : Prop where eq : byB P t = some k
class ZvC (P : Program) (t : TypeId) (z : outParam Value) : Prop where eq : zvB P t = some z
class FldC (P : Program) (s i : Nat) (off : outParam Nat) : Prop where eq : fieldB P s i = some off
class PlC (P : Program) (t : TypeId) (pl : outParam (List (Nat × Nat))) : Prop where eq : structB P t = some pl
/-- The value at a place, in a form that needs no more reckoning. -/
def getL : List Value → Nat → Option Value
  | [], _ => none
  | v :: _, 0 => some v
  | _ :: r, i + 1 => getL r i
theorem getL_eq : ∀ (l : List Value) (i : Nat), getL l i = l[i]?
  | [], i => by simp [getL]
  | v :: r, 0 => rfl
  | v :: r, i + 1 => by simp [getL, getL_eq r i]
/-- Some of a list, in its order. -/
inductive SubL : List Value → Nat → Nat → List Value → Prop
  | nil {l : List Value} : SubL l 0 0 []
  | cons {x : Value} {r out : List Value} {m : Nat} : SubL r 0 m out → SubL (x :: r) 0 (m + 1) (x :: out)
  | succ {x : Value} {r out : List Value} {o m : Nat} : SubL r o m out → SubL (x :: r) (o + 1) m out
theorem SubL.eq {l out : List Value} {o m : Nat} (h : SubL l o m out) : o + m ≤ l.length ∧ l.toArray.extract o (o + m) = out.toArray := by
  induction h with
  | nil => simp
  | @cons x r out m _ ih =>
    obtain ⟨h1, h2⟩ := ih
    refine ⟨by simp; omega, ?_⟩
    simp [List.extract_eq_take_drop] at h2 ⊢
    exact h2
  | @succ x r out o m _ ih =>
    obtain ⟨h1, h2⟩ := ih
    refine ⟨by simp; omega, ?_⟩
    simp [List.extract_eq_take_drop, Nat.add_right_comm o 1 m] at h2 ⊢
    exact h2
section runs
variable {P : Program} {w : World}
theorem runScal {t : TypeId} (h : scalB P t = true) : (isAgg t).run P w = .ok false w := by
  unfold scalB at h
  unfold isAgg
  split at h
  · simp at h
  · simp at h
  · simp at h
  · rename_i d h1 h2 h3 hd
    cases d <;> simp_all [run_underlying hd]
theorem runAgg {t : TypeId} (h : aggB P t = true) : (isAgg t).run P w = .ok true w := by
  unfold aggB at h
  unfold isAgg
  split at h
  · rename_i hd; simp [run_underlying hd]
  · rename_i hd; simp [run_underlying hd]
  · simp at h
theorem runSz {t : TypeId} {k : Nat} (h : szB P t = some k) : (sizeOf t).run P w = .ok k w := by
  unfold szB at h
  cases hi : P.info? t with
  | none => simp [hi] at h
  | some i => simp [hi] at h; unfold sizeOf; simp [run_typeInfo w hi, h]
theorem runZv {t : TypeId} {z : Value} (h : zvB P t = some z) : (zeroValue t).run P w = .ok z w := by
  unfold zvB at h
  cases hi : P.info? t with
  | none => simp [hi] at h
  | some i => simp [hi] at h; unfold zeroValue; simp [run_typeInfo w hi, h]
theorem runFieldAt {s i off b o : Nat} (h : fieldB P s i = some off) : (Instr.fieldAt s (.pointer (some ⟨b, o, none⟩)) i).run P w = .ok (.pointer (some ⟨b, o + off, none⟩)) w := by
  unfold fieldB at h
  split at h
  · rename_i fs hu
    split at h
    · rename_i f hf
      split at h
      · simp at h
      · rename_i hz
        simp at h
        have hs : szB P f.type = some (P.cellsOf f.type) := by
          unfold Program.cellsOf at hz ⊢
          unfold szB
          cases hi : P.info? f.type with
          | none => simp [hi] at hz
          | some i => simp
        unfold Instr.fieldAt
        simp [run_underlying hu, hf, Instr.sureAddr, fieldPlace, runSz hs, hz, Addr.add, h]
    · simp at h
  · simp at h
theorem runLoadScal {t : TypeId} {p : Addr} {v : Value} (h : scalB P t = true) (hc : w.cell? p = some v) : (Instr.loadAt t (.pointer (some p))).run P w = .ok v w := by
  unfold Instr.loadAt
  simp [Instr.sureAddr, loadVar, runScal h, hc]
theorem runLoadCells {b : Nat} (c : Array Value) (o : Nat) : ∀ (k i : Nat) (acc : Array Value), (∀ j, j < i + k → i ≤ j → w.cell? ⟨b, o + j, none⟩ = c[o + j]?) → o + i + k ≤ c.size →
    (loadCellsFrom ⟨b, o, none⟩ i k acc).run P w = .ok (acc ++ (c.extract (o + i) (o + i + k))) w := by
  intro k
  induction k with
  | zero => intro i acc _ _; simp [loadCellsFrom]; omega
  | succ k ih =>
    intro i acc h hs
    have h0 := h i (by omega) (Nat.le_refl _)
    have ha : Addr.add ⟨b, o, none⟩ i = ⟨b, o + i, none⟩ := by
      unfold Addr.add; split
      · rename_i e; subst e; rfl
      · rfl
    have hlt : o + i < c.size := by omega
    rw [Array.getElem?_eq_getElem hlt] at h0
    simp only [loadCellsFrom]
    simp [ha, h0]
    rw [ih (i + 1) _ (fun j hj hi => h j (by omega) (by omega)) (by omega)]
    congr 1
    apply Array.ext'
    simp only [Array.toList_append, Array.toList_push, Array.toList_extract, List.append_assoc]
    congr 1
    simp only [List.extract_eq_take_drop]
    have hd : c.toList.drop (o + i) = c[o + i] :: c.toList.drop (o + i + 1) := by rw [List.drop_eq_getElem_cons (by simpa using hlt)]; simp
    rw [show o + i + (k + 1) - (o + i) = k + 1 from by omega, show o + (i + 1) + k - (o + (i + 1)) = k from by omega, hd, show o + (i + 1) = o + i + 1 from by omega]
    simp
theorem runLoadAgg {t : TypeId} {b o k : Nat} {c : Array Value} {T : TypeId} (h : aggB P t = true) (hk : szB P t = some k) (hb : blkAt b c T w) (hs : Nat.ble (o + k) c.size = true) : (Instr.loadAt t (.pointer (some ⟨b, o, none⟩))).run P w = .ok (.agg (c.extract o (o + k))) w := by
  have hs' := Nat.le_of_ble_eq_true hs
  unfold Instr.loadAt
  simp only [Instr.sureAddr, loadVar, Sem.run_bind, Sem.run_pure, Result.andThen, runAgg h]
  have := runLoadCells (P := P) (w := w) (b := b) c o k 0 #[] (fun j hj _ => by
    obtain ⟨lo, hi, h, _⟩ := hb
    simp [World.cell?, h]) (by omega)
  simp [runSz hk, loadCells, this, Result.andThen]
theorem cells_one {v : Value} (h : v.oneCell' = true) : v.cells = #[v] := by cases v <;> simp_all [Value.oneCell', Value.cells]
end runs
end Go.BK
namespace Go.BK
open Go.RowKit
/-- A string by its bytes. -/
abbrev str (l : List UInt8) : Value := .string ⟨l.toArray⟩
abbrev i64 (a : Int) : Value := .int .i64 a
abbrev ptr (b o : Nat) : Value := .pointer (some ⟨b, o, none⟩)
/-- The comparisons of integers. -/
def cmpP : BinOp → Int → Int → Option Prop
  | .eql, a, b => some (a = b)
  | .neq, a, b => some (a ≠ b)
  | .lss, a, b => some (a < b)
  | .leq, a, b => some (a ≤ b)
  | .gtr, a, b => some (b < a)
  | .geq, a, b => some (b ≤ a)
  | _, _, _ => none
def cmpV : BinOp → Int → Int → Option Value
  | .eql, a, b => some (.bool (decide (a = b)))
  | .neq, a, b => some (.bool (decide (a ≠ b)))
  | .lss, a, b => some (.bool (decide (a < b)))
  | .leq, a, b => some (.bool (decide (a ≤ b)))
  | .gtr, a, b => some (.bool (decide (b < a)))
  | .geq, a, b => some (.bool (decide (b ≤ a)))
  | _, _, _ => none
/-- What the other operations on integers give (but / and %). -/
def arV : BinOp → IntKind → Int → Int → Option Int
  | .add, k, a, b => some (k.wrap (a + b))
  | .sub, k, a, b => some (k.wrap (a - b))
  | .mul, k, a, b => some (k.wrap (a * b))
  | .and, k, a, b => some (k.wrap (BitVec.ofInt k.bits a &&& BitVec.ofInt k.bits b).toNat)
  | .or, k, a, b => some (k.wrap (BitVec.ofInt k.bits a ||| BitVec.ofInt k.bits b).toNat)
  | .xor, k, a, b => some (k.wrap (BitVec.ofInt k.bits a ^^^ BitVec.ofInt k.bits b).toNat)
  | .andNot, k, a, b => some (k.wrap (BitVec.ofInt k.bits a &&& ~~~ BitVec.ofInt k.bits b).toNat)
  | _, _, _, _ => none
/-- The same where nothing wraps. -/
def arX : BinOp → Int → Int → Option Int
  | .add, a, b => some (a + b)
  | .sub, a, b => some (a - b)
  | .mul, a, b => some (a * b)
  | _, _, _ => none
theorem wrap_in (k : IntKind) {x : Int} (h : k.min ≤ x ∧ x ≤ k.max) : k.wrap x = x := by
  obtain ⟨h1, h2⟩ := h
  cases k <;> simp only [IntKind.min, IntKind.max, IntKind.signed, IntKind.bits, IntKind.wrap, ↓reduceIte, Bool.true_and, Bool.false_and, Bool.false_eq_true] at h1 h2 ⊢ <;> first | (split <;> rename_i hh <;> simp only [decide_eq_true_eq, ge_iff_le] at hh <;> omega) | omega
theorem wrap_bounds (k : IntKind) (x : Int) : k.min ≤ k.wrap x ∧ k.wrap x ≤ k.max := by
  cases k <;> simp only [IntKind.min, IntKind.max, IntKind.signed, IntKind.bits, IntKind.wrap, ↓reduceIte, Bool.true_and, Bool.false_and, Bool.false_eq_true] <;> first | (split <;> rename_i hh <;> simp only [decide_eq_true_eq, ge_iff_le] at hh <;> omega) | omega
theorem i64_in {x : Int} (h1 : -9223372036854775808 ≤ x) (h2 : x ≤ 9223372036854775807) : IntKind.i64.min ≤ x ∧ x ≤ IntKind.i64.max := ⟨h1, h2⟩
section
variable {P : Program} {w0 : World} {S0 : BSet} {n : Nat} {F : Fr} {A : List HP} {d : Option Tmp} {T : TypeId} {pos : String} {af : Array Edge} {g : Option (Nat × Bool)} {x y : Operand} {v : Value} {t ty : TypeId} {k : IntKind} {a b : Int}
theorem EvW.move (h : ev F x = some v) : EvW P w0 S0 n F A ⟨d, .move x, T, pos, af, g⟩ v := .pure fun a w ha _ => by simp [execOp, ha.eval h]
theorem EvW.assign (h : ev F x = some v) : EvW P w0 S0 n F A ⟨d, .assign x, T, pos, af, g⟩ v := .pure fun a w ha _ => by simp [execOp, ha.eval h]
theorem EvW.pickT {c : Operand} (hc : ev F c = some (.bool true)) (h : ev F x = some v) : EvW P w0 S0 n F A ⟨d, .pick c x y, T, pos, af, g⟩ v := .pure fun a w ha _ => by simp [execOp, ha.eval h, ha.eval hc, asBool]
theorem EvW.pickF {c : Operand} (hc : ev F c = some (.bool false)) (h : ev F y = some v) : EvW P w0 S0 n F A ⟨d, .pick c x y, T, pos, af, g⟩ v := .pure fun a w ha _ => by simp [execOp, ha.eval h, ha.eval hc, asBool]
theorem EvW.nilPtr {p : Addr} (h : ev F x = some (.pointer (some p))) : EvW P w0 S0 n F A ⟨d, .nilCheck x, T, pos, af, g⟩ (.pointer (some p)) := .pure fun a w ha _ => by simp [execOp, ha.eval h]
theorem EvW.fieldAddr {s i off bl o : Nat} (h : ev F x = some (ptr bl o)) (hf : fieldB P s i = some off) : EvW P w0 S0 n F A ⟨d, .fieldAddr s x i, T, pos, af, g⟩ (ptr bl (o + off)) := .pure fun a w ha _ => by simp [execOp, ha.eval h, runFieldAt hf]
theorem EvW.fieldAddr0 {s i off bl : Nat} (h : ev F x = some (ptr bl 0)) (hf : fieldB P s i = some off) : EvW P w0 S0 n F A ⟨d, .fieldAddr s x i, T, pos, af, g⟩ (ptr bl off) := by
  have := EvW.fieldAddr (P := P) (w0 := w0) (S0 := S0) (n := n) (A := A) (d := d) (T := T) (pos := pos) (af := af) (g := g) h hf
  rwa [Nat.zero_add] at this
theorem EvW.load {bl o : Nat} {c : List Value} {U : TypeId} {r : List HP} (hx : ev F x = some (ptr bl o)) (hs : scalB P t = true) (ht : Take (.blk bl c.toArray U) A r) (hc : getL c o = some v) : EvW P w0 S0 n F A ⟨d, .load t x, T, pos, af, g⟩ v :=
  .pure fun a w ha hst => by simp [execOp, ha.eval hx, runLoadScal hs ((hst.blk ht).cell (o := o) (v := v) (by rw [List.getElem?_toArray, ← getL_eq]; exact hc))]
theorem EvW.loadAgg {bl o m : Nat} {c out : List Value} {U : TypeId} {r : List HP} (hx : ev F x = some (ptr bl o)) (hs : aggB P t = true) (hm : szB P t = some m) (ht : Take (.blk bl c.toArray U) A r) (hc : SubL c o m out) : EvW P w0 S0 n F A ⟨d, .load t x, T, pos, af, g⟩ (.agg out.toArray) :=
  .pure fun a w ha hst => by
    obtain ⟨h1, h2⟩ := hc.eq
    have := runLoadAgg (P := P) hs hm (hst.blk ht) (o := o) (by simpa using h1)
    rw [h2] at this
    simp [execOp, ha.eval hx, this]
theorem EvW.loadSees {B : HP} {p : Addr} (hx : ev F x = some (.pointer (some p))) (hs : scalB P t = true) (hB : Sees w0 S0 B) (hc : ∀ R w, B.sat R w → w.cell? p = some v) : EvW P w0 S0 n F A ⟨d, .load t x, T, pos, af, g⟩ v :=
  .pure fun a w ha hst => by obtain ⟨R, hR⟩ := hB.at hst; simp [execOp, ha.eval hx, runLoadScal hs (hc R w hR)]
theorem runEqGuard {op : BinOp} {k' : IntKind} {w : World} : (eqGuard op t x y (.int k a) (.int k' b)).run P w = .ok () w := by
  unfold eqGuard; simp
theorem EvW.ar {op : BinOp} {r : Int} (hx : ev F x = some (.int k a)) (hy : ev F y = some (.int k b)) (hr : arV op k a b = some r) : EvW P w0 S0 n F A ⟨d, .binOp op t x y ty, T, pos, af, g⟩ (.int k r) :=
  .pure fun a w ha _ => by
    cases op <;> simp [arV] at hr <;> subst hr <;> simp [execOp, ha.eval hx, ha.eval hy, runEqGuard, binOp, Op.intArith, Op.intBits]
theorem EvW.arN {op : BinOp} {r : Int} (hx : ev F x = some (.int k a)) (hy : ev F y = some (.int k b)) (hr : arX op a b = some r) (hw : k.min ≤ r ∧ r ≤ k.max) : EvW P w0 S0 n F A ⟨d, .binOp op t x y ty, T, pos, af, g⟩ (.int k r) := by
  have h := wrap_in k hw
  cases op <;> simp [arX] at hr <;> subst hr
  · exact .ar hx hy (by simp [arV, h])
  · exact .ar hx hy (by simp [arV, h])
  · exact .ar hx hy (by simp [arV, h])
theorem EvW.cmp {op : BinOp} (hx : ev F x = some (.int k a)) (hy : ev F y = some (.int k b)) (hr : cmpV op a b = some v) : EvW P w0 S0 n F A ⟨d, .binOp op t x y ty, T, pos, af, g⟩ v :=
  .pure fun a' w ha _ => by
    cases op <;> simp [cmpV] at hr <;> subst hr <;> simp [execOp, ha.eval hx, ha.eval hy, runEqGuard, binOp, Op.intCmp] <;> (cases h : decide (a = b) <;> simp_all [bne])
theorem EvW.cmpT {op : BinOp} {p : Prop} (hx : ev F x = some (.int k a)) (hy : ev F y = some (.int k b)) (hr : cmpP op a b = some p) (hp : p) : EvW P w0 S0 n F A ⟨d, .binOp op t x y ty, T, pos, af, g⟩ (.bool true) := by
  cases op <;> cases hr <;> exact .cmp hx hy (by simp [cmpV]; exact hp)
theorem EvW.cmpF {op : BinOp} {p : Prop} (hx : ev F x = some (.int k a)) (hy : ev F y = some (.int k b)) (hr : cmpP op a b = some p) (hp : ¬ p) : EvW P w0 S0 n F A ⟨d, .binOp op t x y ty, T, pos, af, g⟩ (.bool false) := by
  cases op <;> cases hr <;> exact .cmp hx hy (by simp [cmpV]; first | exact Int.not_lt.1 hp | exact Int.not_le.1 hp | (exact hp) | (exact Classical.not_not.1 hp))
theorem EvW.rem (hx : ev F x = some (.int k a)) (hy : ev F y = some (.int k b)) (hb : b ≠ 0) : EvW P w0 S0 n F A ⟨d, .binOp .rem t x y ty, T, pos, af, g⟩ (.int k (a.tmod b)) :=
  .pure fun a' w ha _ => by simp [execOp, ha.eval hx, ha.eval hy, runEqGuard, binOp, Op.intDiv, hb]
theorem EvW.shl {k' : IntKind} (hx : ev F x = some (.int k a)) (hy : ev F y = some (.int k' b)) (hb : 0 ≤ b) : EvW P w0 S0 n F A ⟨d, .binOp .shl t x y ty, T, pos, af, g⟩ (.int k (k.wrap (a * 2 ^ (min b.toNat k.bits)))) :=
  .pure fun a' w ha _ => by
    have : ¬ b < 0 := by omega
    simp [execOp, ha.eval hx, ha.eval hy, runEqGuard, binOp, Op.shift, this]
theorem EvW.shr {k' : IntKind} (hx : ev F x = some (.int k a)) (hy : ev F y = some (.int k' b)) (hb : 0 ≤ b) : EvW P w0 S0 n F A ⟨d, .binOp .shr t x y ty, T, pos, af, g⟩ (.int k (a.fdiv (2 ^ (min b.toNat k.bits)))) :=
  .pure fun a' w ha _ => by
    have : ¬ b < 0 := by omega
    simp [execOp, ha.eval hx, ha.eval hy, runEqGuard, binOp, Op.shift, this]
theorem EvW.neg (hx : ev F x = some (.int k a)) : EvW P w0 S0 n F A ⟨d, .unOp .neg t x, T, pos, af, g⟩ (.int k (k.wrap (0 - a))) :=
  .pure fun a' w ha _ => by simp [execOp, ha.eval hx, Op.unary, Op.intArith]
theorem EvW.not {c : Bool} (hx : ev F x = some (.bool c)) : EvW P w0 S0 n F A ⟨d, .unOp .not t x, T, pos, af, g⟩ (.bool (!c)) :=
  .pure fun a' w ha _ => by simp [execOp, ha.eval hx, Op.unary]
theorem EvW.notT (hx : ev F x = some (.bool true)) : EvW P w0 S0 n F A ⟨d, .unOp .not t x, T, pos, af, g⟩ (.bool false) := .not hx
theorem EvW.notF (hx : ev F x = some (.bool false)) : EvW P w0 S0 n F A ⟨d, .unOp .not t x, T, pos, af, g⟩ (.bool true) := .not hx
theorem EvW.notP {p : Prop} [Decidable p] (hx : ev F x = some (.bool (decide p))) : EvW P w0 S0 n F A ⟨d, .unOp .not t x, T, pos, af, g⟩ (.bool (decide (¬ p))) := by
  have := EvW.not (P := P) (w0 := w0) (S0 := S0) (n := n) (A := A) (d := d) (T := T) (pos := pos) (af := af) (g := g) (t := t) hx
  rwa [show (!decide p) = decide (¬ p) from by simp] at this
theorem runEqBool {c e : Bool} {w : World} (hu : P.underlying t = some .bool) : (Op.equal t (.bool c) (.bool e)).run P w = .ok (c == e) w := by
  have key : ∀ m, (Op.equalIn (m + 1) t (.bool c) (.bool e)).run P w = .ok (c == e) w := fun m => by simp [Op.equalIn, run_underlying hu]
  exact key 9999
/-- One truth against another. -/
theorem EvW.beq {c e : Bool} (hx : ev F x = some (.bool c)) (hy : ev F y = some (.bool e)) (hu : P.underlying t = some .bool) : EvW P w0 S0 n F A ⟨d, .binOp .eql t x y ty, T, pos, af, g⟩ (.bool (c == e)) :=
  .pure fun a' w ha _ => by simp [execOp, ha.eval hx, ha.eval hy, eqGuard, binOp, runEqBool hu]
theorem sizeMk (l : List UInt8) : (ByteArray.mk l.toArray).size = l.length := rfl
theorem EvW.seq {l m : List UInt8} (hx : ev F x = some (str l)) (hy : ev F y = some (str m)) : EvW P w0 S0 n F A ⟨d, .binOp .eql t x y ty, T, pos, af, g⟩ (.bool (decide (l = m))) :=
  .pure fun a' w ha _ => by
    have h : (l == m) = decide (l = m) := by cases h : decide (l = m) <;> simp_all
    simp [execOp, ha.eval hx, ha.eval hy, eqGuard, binOp, Op.stringOp, h]
theorem EvW.sne {l m : List UInt8} (hx : ev F x = some (str l)) (hy : ev F y = some (str m)) : EvW P w0 S0 n F A ⟨d, .binOp .neq t x y ty, T, pos, af, g⟩ (.bool (decide (l ≠ m))) :=
  .pure fun a' w ha _ => by
    have h : (!(l == m)) = decide (l ≠ m) := by cases h : decide (l = m) <;> simp_all
    simp [execOp, ha.eval hx, ha.eval hy, eqGuard, binOp, Op.stringOp, h]
theorem EvW.sadd {l m : List UInt8} (hx : ev F x = some (str l)) (hy : ev F y = some (str m)) (hl : (l.length : Int) + m.length ≤ 9223372036854775807) : EvW P w0 S0 n F A ⟨d, .binOp .add t x y ty, T, pos, af, g⟩ (str (l ++ m)) :=
  .pure fun a' w ha _ => by
    have e : (ByteArray.mk l.toArray) ++ (ByteArray.mk m.toArray) = ByteArray.mk (l ++ m).toArray := by
      apply ByteArray.ext; simp
    simp [execOp, ha.eval hx, ha.eval hy, eqGuard, binOp, Op.stringOp, sizeMk, hl, e]
theorem EvW.conv {k' : IntKind} (hx : ev F x = some (.int k a)) {d0 : TypeDesc} (hu : P.underlying ty = some (.int k')) (he : P.underlying t = some d0) : EvW P w0 S0 n F A ⟨d, .convert t ty x, T, pos, af, g⟩ (.int k' (k'.wrap a)) := by
  exact .pure fun a' w ha _ => by simp [execOp, ha.eval hx, convert, run_underlying hu, run_underlying he, Conv.intToInt]
theorem EvW.convN {k' : IntKind} (hx : ev F x = some (.int k a)) {d0 : TypeDesc} (hu : P.underlying ty = some (.int k')) (he : P.underlying t = some d0) (hw : k'.min ≤ a ∧ a ≤ k'.max) : EvW P w0 S0 n F A ⟨d, .convert t ty x, T, pos, af, g⟩ (.int k' a) := by
  have := EvW.conv (P := P) (w0 := w0) (S0 := S0) (n := n) (A := A) (d := d) (T := T) (pos := pos) (af := af) (g := g) hx hu he
  rwa [wrap_in k' hw] at this
/-- What fits a kind fits a wider one. -/
theorem EvW.convW {k' k2 : IntKind} {d0 : TypeDesc} (hx : ev F x = some (.int k (k2.wrap a))) (hu : P.underlying ty = some (.int k')) (he : P.underlying t = some d0) (hk : (decide (k'.min ≤ k2.min) && decide (k2.max ≤ k'.max)) = true) : EvW P w0 S0 n F A ⟨d, .convert t ty x, T, pos, af, g⟩ (.int k' (k2.wrap a)) :=
  .convN hx hu he (by
    simp only [Bool.and_eq_true, decide_eq_true_eq] at hk
    have := wrap_bounds k2 a
    omega)
theorem EvW.extract {vs : List Value} {i : Nat} (hx : ev F x = some (.tuple vs.toArray)) (hi : getL vs i = some v) : EvW P w0 S0 n F A ⟨d, .extract x i, T, pos, af, g⟩ v :=
  .pure fun a' w ha _ => by rw [getL_eq] at hi; simp [execOp, ha.eval hx, Instr.extract, hi]
theorem EvW.lenS {l : List UInt8} (hx : ev F x = some (str l)) (hu : P.underlying t = some .string) : EvW P w0 S0 n F A ⟨d, .call ⟨.builtin .len, #[x], #[t]⟩, T, pos, af, g⟩ (i64 l.length) :=
  .pure fun a' w ha _ => by simp [execOp, resolve, invoke, builtin, Builtin.len_, ha.eval hx, run_underlying hu, goInt, sizeMk]
theorem EvW.lenL {p : Option Addr} {e : TypeId} {len cap : Nat} (hx : ev F x = some (.slice p len cap)) (hu : P.underlying t = some (.slice e)) : EvW P w0 S0 n F A ⟨d, .call ⟨.builtin .len, #[x], #[t]⟩, T, pos, af, g⟩ (i64 len) :=
  .pure fun a' w ha _ => by simp [execOp, resolve, invoke, builtin, Builtin.len_, ha.eval hx, run_underlying hu, goInt]
theorem EvW.max2 (hx : ev F x = some (.int k a)) (hy : ev F y = some (.int k b)) {ts : Array TypeId} : EvW P w0 S0 n F A ⟨d, .call ⟨.builtin .max, #[x, y], ts⟩, T, pos, af, g⟩ (.int k (max a b)) :=
  .pure fun a' w ha _ => by
    have : (if a < b then b else a) = max a b := by omega
    simp [execOp, resolve, invoke, builtin, Builtin.max_, Builtin.max2, ha.eval hx, ha.eval hy, this]
theorem EvW.min2 (hx : ev F x = some (.int k a)) (hy : ev F y = some (.int k b)) {ts : Array TypeId} : EvW P w0 S0 n F A ⟨d, .call ⟨.builtin .min, #[x, y], ts⟩, T, pos, af, g⟩ (.int k (min a b)) :=
  .pure fun a' w ha _ => by
    have : (if b < a then b else a) = min a b := by omega
    simp [execOp, resolve, invoke, builtin, Builtin.min_, Builtin.min2, ha.eval hx, ha.eval hy, this]
theorem EvW.index {l : List UInt8} (hx : ev F x = some (str l)) (hy : ev F y = some (.int k a)) (hu : P.underlying t = some .string) (h0 : 0 ≤ a) (h1 : a < l.length) : EvW P w0 S0 n F A ⟨d, .index t x y, T, pos, af, g⟩ (.int .u8 (l.getD a.toNat 0).toNat) :=
  .pure fun a' w ha _ => by
    have hlt : a.toNat < l.length := by omega
    have : (ByteArray.mk l.toArray)[a.toNat]? = some (l.getD a.toNat 0) := by
      rw [getElem?_pos _ _ (by simpa [ByteArray.size] using hlt)]
      simp [ByteArray.getElem_eq_getElem_data, hlt]
    simp [execOp, Instr.index, ha.eval hx, ha.eval hy, asIntOf, run_underlying hu, h0, this]
theorem runBound {w : World} {i : Int} {m : Nat} {code : BoundsCode} (h0 : 0 ≤ i) (h1 : i ≤ m) : (Instr.sliceBound (.int k i) m code).run P w = .ok i.toNat w := by
  simp [Instr.sliceBound, asIntOf, h0, h1]
theorem extract_eq (l : List UInt8) (i j : Nat) : (ByteArray.mk l.toArray).extract i j = ByteArray.mk ((l.take j).drop i).toArray := by
  apply ByteArray.ext
  simp [List.extract_eq_take_drop, List.drop_take]
theorem EvW.sliceS {l : List UInt8} {lo hi : Operand} {k1 k2 : IntKind} (hx : ev F x = some (str l)) (hu : P.underlying t = some .string) (hlo : ev F lo = some (.int k1 a)) (hhi : ev F hi = some (.int k2 b)) (h0 : 0 ≤ a) (h1 : a ≤ b) (h2 : b ≤ l.length) :
    EvW P w0 S0 n F A ⟨d, .slice t x (some lo) (some hi) none, T, pos, af, g⟩ (str ((l.take b.toNat).drop a.toNat)) :=
  .pure fun a' w ha _ => by
    have e1 : (Instr.sliceBound (.int k2 b) (ByteArray.mk l.toArray).size .sliceAlen).run P w = .ok b.toNat w := runBound (by omega) (by simpa [ByteArray.size] using h2)
    have e2 : (Instr.sliceBound (.int k1 a) b.toNat .sliceB).run P w = .ok a.toNat w := runBound h0 (by omega)
    simp [execOp, Instr.sliceAt, Instr.slice, Instr.sliceBounds, ha.eval hx, ha.eval hlo, ha.eval hhi, run_underlying hu, e1, e2, extract_eq]
theorem EvW.sliceS_lo {l : List UInt8} {lo : Operand} {k1 : IntKind} (hx : ev F x = some (str l)) (hu : P.underlying t = some .string) (hlo : ev F lo = some (.int k1 a)) (h0 : 0 ≤ a) (h1 : a ≤ l.length) :
    EvW P w0 S0 n F A ⟨d, .slice t x (some lo) none none, T, pos, af, g⟩ (str (l.drop a.toNat)) :=
  .pure fun a' w ha _ => by
    have e2 : (Instr.sliceBound (.int k1 a) l.length .sliceB).run P w = .ok a.toNat w := runBound h0 (by omega)
    simp [execOp, Instr.sliceAt, Instr.slice, Instr.sliceBounds, ha.eval hx, ha.eval hlo, run_underlying hu, sizeMk, e2, extract_eq]
theorem EvW.sliceS_hi {l : List UInt8} {hi : Operand} {k1 : IntKind} (hx : ev F x = some (str l)) (hu : P.underlying t = some .string) (hhi : ev F hi = some (.int k1 b)) (h0 : 0 ≤ b) (h1 : b ≤ l.length) :
    EvW P w0 S0 n F A ⟨d, .slice t x none (some hi) none, T, pos, af, g⟩ (str (l.take b.toNat)) :=
  .pure fun a' w ha _ => by
    have e2 : (Instr.sliceBound (.int k1 b) l.length .sliceAlen).run P w = .ok b.toNat w := runBound h0 (by omega)
    simp [execOp, Instr.sliceAt, Instr.slice, Instr.sliceBounds, ha.eval hx, ha.eval hhi, run_underlying hu, sizeMk, e2, extract_eq]
theorem EvW.indexAddr {e : TypeId} {sz bl o len cap : Nat} (hx : ev F x = some (.slice (some ⟨bl, o, none⟩) len cap)) (hy : ev F y = some (.int k a)) (hu : P.underlying t = some (.slice e)) (hz : szB P e = some sz) (h0 : 0 ≤ a) (h1 : a < len) :
    EvW P w0 S0 n F A ⟨d, .indexAddr t x y, T, pos, af, g⟩ (ptr bl (o + a.toNat * sz)) :=
  .pure fun a' w ha _ => by
    have e1 : Addr.add ⟨bl, o, none⟩ (a.toNat * sz) = ⟨bl, o + a.toNat * sz, none⟩ := by
      unfold Addr.add; split
      · rename_i e; rw [e]; rfl
      · rfl
    simp [execOp, Instr.indexAt, ha.eval hx, ha.eval hy, asIntOf, run_underlying hu, h0, h1, runSz hz, e1]
end
end Go.BK
namespace Go.BK
open Go.RowKit
/-- Cells from a place on are others. -/
inductive SetMany : List Value → Nat → List Value → List Value → Prop
  | nil {l : List Value} : SetMany l 0 [] l
  | cons {x v : Value} {r r' cs : List Value} : SetMany r 0 cs r' → SetMany (x :: r) 0 (v :: cs) (v :: r')
  | succ {x : Value} {o : Nat} {r r' cs : List Value} : SetMany r o cs r' → SetMany (x :: r) (o + 1) cs (x :: r')
theorem SetMany.eq {l l' cs : List Value} {o : Nat} (h : SetMany l o cs l') : o + cs.length ≤ l.length ∧ l' = l.take o ++ cs ++ l.drop (o + cs.length) := by
  induction h with
  | nil => simp
  | cons _ ih => obtain ⟨h1, h2⟩ := ih; refine ⟨by simp; omega, ?_⟩; subst h2; simp
  | succ _ ih => obtain ⟨h1, h2⟩ := ih; refine ⟨by simp; omega, ?_⟩; subst h2; simp [Nat.add_right_comm]
inductive UpdC (bl o : Nat) (cs : List Value) : List HP → List HP → Prop
  | head {l l' : List Value} {T : TypeId} {r : List HP} : SetMany l o cs l' → UpdC bl o cs (.blk bl l.toArray T :: r) (.blk bl l'.toArray T :: r)
  | tail {y : HP} {r r' : List HP} : UpdC bl o cs r r' → UpdC bl o cs (y :: r) (y :: r')
theorem UpdC.upd {bl o : Nat} {cs : List Value} {A A' : List HP} (h : UpdC bl o cs A A') : ∃ l l' T, SetMany l o cs l' ∧ Upd bl T l.toArray l'.toArray A A' := by
  induction h with
  | head h => exact ⟨_, _, _, h, .head⟩
  | tail _ ih => obtain ⟨l, l', T, h1, h2⟩ := ih; exact ⟨l, l', T, h1, .tail h2⟩
def over (l : List Value) (o : Nat) (cs : List Value) : List Value := l.take o ++ cs ++ l.drop (o + cs.length)
theorem over_length {l cs : List Value} {o : Nat} (h : o + cs.length ≤ l.length) : (over l o cs).length = l.length := by
  unfold over; simp; omega
theorem over_cons {l cs : List Value} {o : Nat} {v : Value} (h : o + (cs.length + 1) ≤ l.length) : over (l.set o v) (o + 1) cs = over l o (v :: cs) := by
  unfold over
  have e1 : (l.set o v).take (o + 1) = l.take o ++ [v] := by
    rw [List.take_set, List.take_succ_eq_append_getElem (by omega)]
    rw [List.set_append_right _ _ (by simp; omega)]
    simp [Nat.min_eq_left (by omega : o ≤ l.length)]
  rw [e1, List.drop_set_of_lt (by omega)]
  simp [Nat.add_assoc, Nat.add_comm 1]
section runs
variable {P : Program}
theorem add_at (bl o i : Nat) : Addr.add ⟨bl, o, none⟩ i = ⟨bl, o + i, none⟩ := by
  unfold Addr.add; split
  · rename_i e; subst e; rfl
  · rfl
theorem setSelf {α : Type} {a : Array α} {i : Nat} {x : α} (h : a[i]? = some x) : a.setIfInBounds i x = a := by
  apply Array.ext_getElem?
  intro j
  rw [Array.getElem?_setIfInBounds]
  by_cases e : i = j
  · subst e; rw [if_pos rfl, if_pos (lt_of_get h), h]
  · simp [e]
theorem runStoreCells {bl : Nat} {T : TypeId} {lo hi : Nat} : ∀ (cs : List Value) (o i : Nat) (l : List Value) (w : World), w.heap[bl]? = some (.cells l.toArray T (lo, hi)) → (∀ x, x < l.length → ¬ (lo ≤ x ∧ x < hi)) →
    cs.all (·.oneCell') = true → o + i + cs.length ≤ l.length → (storeCells ⟨bl, o, none⟩ cs i).run P w = .ok () { w with heap := w.heap.setIfInBounds bl (.cells (over l (o + i) cs).toArray T (lo, hi)) } := by
  intro cs
  induction cs with
  | nil =>
    intro o i l w h _ _ _
    have e : over l (o + i) [] = l := by simp [over]
    rw [e, setSelf h]
    rfl
  | cons v cs ih =>
    intro o i l w h hf h1 hl
    have hb := lt_of_get h
    have hg : w.heap[bl] = .cells l.toArray T (lo, hi) := by rw [Array.getElem?_eq_getElem hb] at h; exact Option.some.inj h
    simp only [List.all_cons, Bool.and_eq_true] at h1
    simp only [List.length_cons] at hl
    have hlt : o + i < l.length := by omega
    have hcell : w.cell? ⟨bl, o + i, none⟩ = some l[o + i] := by simp [World.cell?, h, hlt]
    have hfr : w.frozen? ⟨bl, o + i, none⟩ = false := by
      have := hf (o + i) hlt
      simp only [World.frozen?, h]; simpa using this
    have hset : w.setCell ⟨bl, o + i, none⟩ v = { w with heap := w.heap.setIfInBounds bl (.cells (l.set (o + i) v).toArray T (lo, hi)) } := by
      simp only [World.setCell, Option.isSome_none, Bool.false_eq_true, ↓reduceIte]
      congr 1
      apply Array.ext_getElem?
      intro j
      rw [Array.getElem?_modify, Array.getElem?_setIfInBounds]
      by_cases e : bl = j
      · subst e; simp [hb, hg]
      · simp [e]
    simp only [storeCells, Sem.run_bind]
    rw [add_at, run_store P w _ v .plain h1.1]
    simp only [hcell, hfr, Bool.false_eq_true, ↓reduceIte, Result.andThen, hset]
    rw [ih o (i + 1) (l.set (o + i) v) _ (by simp [hb]) (by simpa using hf) h1.2 (by simp; omega)]
    have := over_cons (l := l) (cs := cs) (o := o + i) (v := v) (by omega)
    rw [show o + (i + 1) = o + i + 1 from by omega, this]
    simp
theorem runStoreAt {t : TypeId} {bl o : Nat} {T : TypeId} {lo hi : Nat} {l cs : List Value} {v : Value} {w : World} (hz : szB P t = some cs.length) (hv : v.cells = cs.toArray) (h1 : cs.all (·.oneCell') = true) (h : w.heap[bl]? = some (.cells l.toArray T (lo, hi)))
    (hf : ∀ x, x < l.length → ¬ (lo ≤ x ∧ x < hi)) (hl : o + cs.length ≤ l.length) : (Instr.storeAt t (ptr bl o) v).run P w = .ok () { w with heap := w.heap.setIfInBounds bl (.cells (over l o cs).toArray T (lo, hi)) } := by
  have := runStoreCells (P := P) cs o 0 l w h hf h1 (by omega)
  unfold Instr.storeAt
  simp [Instr.sureAddr, storeVar, runSz hz, hv, this]
end runs
section
variable {P : Program} {w0 : World} {S0 : BSet} {n : Nat} {F : Fr} {A A' : List HP} {ops : Array Oper} {Q : Exit → Act → World → Prop} {rest : List Oper} {d : Nat} {T : TypeId} {pos : String} {af : Array Edge} {x y : Operand} {v : Value} {t ty : TypeId} {k : IntKind} {a b : Int} {cs : List Value} {bl o : Nat}
theorem WL.store (hx : ev F x = some (ptr bl o)) (hy : ev F y = some v) (hv : v.cells = cs.toArray) (hz : szB P t = some cs.length) (h1 : cs.all (·.oneCell') = true) (hu : UpdC bl o cs A A') (k : WL P w0 S0 n ops Q rest F A') :
    WL P w0 S0 n ops Q (⟨none, .store t x y, T, pos, af, none⟩ :: rest) F A := by
  obtain ⟨l, l', U, hs, hu⟩ := hu.upd
  obtain ⟨hl, he⟩ := hs.eq
  refine .step (fun a w ha hst K hK => ?_) rfl
  obtain ⟨r, t1, _⟩ := hu.take
  obtain ⟨lo, hi, h2, h3⟩ := hst.blk t1
  have hrun : (execOp a.eval ⟨none, .store t x y, T, pos, af, none⟩).run P w = .ok .skip { w with heap := w.heap.setIfInBounds bl (.cells (over l o cs).toArray U (lo, hi)) } := by
    simp [execOp, ha.eval hx, ha.eval hy, runStoreAt hz hv h1 h2 (by simpa using h3) hl]
  unfold Oper.wp
  rw [hrun]
  refine hK _ _ (k.go _ _ ha (hst.write hu (fun lo' hi' h4 _ => ?_) (by rw [he]; exact over_length hl)))
  rw [h2] at h4
  injection h4 with h4
  cases h4
  rw [he]; rfl
theorem WL.storeAt {l : List Value} {U : TypeId} (hx : ev F x = some (ptr bl o)) (hy : ev F y = some v) (hv : v.cells = cs.toArray) (hz : szB P t = some cs.length) (h1 : cs.all (·.oneCell') = true) (hu : Upd bl U l.toArray (over l o cs).toArray A A') (hl : o + cs.length ≤ l.length) (k : WL P w0 S0 n ops Q rest F A') :
    WL P w0 S0 n ops Q (⟨none, .store t x y, T, pos, af, none⟩ :: rest) F A := by
  refine .step (fun a w ha hst K hK => ?_) rfl
  obtain ⟨r, t1, _⟩ := hu.take
  obtain ⟨lo, hi, h2, h3⟩ := hst.blk t1
  have hrun : (execOp a.eval ⟨none, .store t x y, T, pos, af, none⟩).run P w = .ok .skip { w with heap := w.heap.setIfInBounds bl (.cells (over l o cs).toArray U (lo, hi)) } := by
    simp [execOp, ha.eval hx, ha.eval hy, runStoreAt hz hv h1 h2 (by simpa using h3) hl]
  unfold Oper.wp
  rw [hrun]
  refine hK _ _ (k.go _ _ ha (hst.write hu (fun lo' hi' h4 _ => ?_) (over_length hl)))
  rw [h2] at h4
  injection h4 with h4
  cases h4
  rfl
theorem WL.box {el : TypeId} (hn : Nat.blt d n = true) (hx : ev F x = some v) (hv : v.cells = cs.toArray) (k : ∀ bl, WL P w0 S0 n ops Q rest ((d, ptr bl 0) :: F) (.blk bl cs.toArray el :: A)) :
    WL P w0 S0 n ops Q (⟨some d, .box el x, T, pos, af, none⟩ :: rest) F A := by
  refine .step (fun a w ha hst K hK => ?_) rfl
  have hrun : (execOp a.eval ⟨some d, .box el x, T, pos, af, none⟩).run P w = .ok (.value (ptr w.heap.size 0)) (w.alloc (.cells cs.toArray el)) := by
    simp [execOp, ha.eval hx, Instr.box, newVar, newRow, hv]
  unfold Oper.wp
  rw [hrun]
  exact hK _ _ ((k _).go _ _ (ha.put (by simpa using hn) _) (hst.newBlk _ _))
theorem WL.alloc {el : TypeId} {z : Value} (hn : Nat.blt d n = true) (hz : zvB P el = some z) (hv : z.cells = cs.toArray) (k : ∀ bl, WL P w0 S0 n ops Q rest ((d, ptr bl 0) :: F) (.blk bl cs.toArray el :: A)) :
    WL P w0 S0 n ops Q (⟨some d, .alloc el, T, pos, af, none⟩ :: rest) F A := by
  refine .step (fun a w ha hst K hK => ?_) rfl
  have hrun : (execOp a.eval ⟨some d, .alloc el, T, pos, af, none⟩).run P w = .ok (.value (ptr w.heap.size 0)) (w.alloc (.cells cs.toArray el)) := by
    simp [execOp, Instr.alloc, runZv hz, newVar, newRow, hv]
  unfold Oper.wp
  rw [hrun]
  exact hK _ _ ((k _).go _ _ (ha.put (by simpa using hn) _) (hst.newBlk _ _))
/-- A slice's cells: those of its elements, one behind the other. -/
inductive Flat (sz : Nat) : List Value → List Value → Prop
  | nil : Flat sz [] []
  | cons {v : Value} {vs c cs : List Value} : v.cells = c.toArray → c.length = sz → Flat sz vs cs → Flat sz (v :: vs) (c ++ cs)
theorem Flat.one {v : Value} {vs cs : List Value} (h : v.oneCell' = true) (k : Flat 1 vs cs) : Flat 1 (v :: vs) (v :: cs) := .cons (c := [v]) (cells_one h) rfl k
theorem foldl_set (c : List Value) : ∀ (off j : Nat) (l : List Value), off + j + c.length ≤ l.length →
    ((c.zipIdx j).foldl (fun (cs : Array Value) (p : Value × Nat) => cs.setIfInBounds (off + p.2) p.1) l.toArray) = (over l (off + j) c).toArray := by
  induction c with
  | nil => intro off j l _; simp [over]
  | cons v c ih =>
    intro off j l h
    simp only [List.length_cons] at h
    simp only [List.zipIdx_cons, List.foldl_cons]
    have : l.toArray.setIfInBounds (off + j) v = (l.set (off + j) v).toArray := by simp
    rw [this, ih off (j + 1) (l.set (off + j) v) (by simp; omega), show off + (j + 1) = off + j + 1 from by omega, over_cons (by omega)]
theorem fill_flat {sz : Nat} {vs cs : List Value} (h : Flat sz vs cs) : ∀ (j : Nat) (l : List Value), l.length = (j + vs.length) * sz →
    Instr.fill (fun i => some (i * sz, sz)) l.toArray ((vs.zipIdx j).map fun p => (p.2, p.1)) = some (l.take (j * sz) ++ cs).toArray := by
  induction h with
  | nil => intro j l hl; simp at hl; simp [Instr.fill, ← hl]
  | @cons v vs c cs hv hc hf ih =>
    intro j l hl
    simp only [List.length_cons] at hl
    have hl1 : j * sz + sz ≤ l.length := by
      rw [hl, show j + (vs.length + 1) = (j + 1) + vs.length from by omega, Nat.add_mul, Nat.add_mul, Nat.one_mul]; omega
    simp only [List.zipIdx_cons, List.map_cons, Instr.fill, hv, List.size_toArray, hc, ne_eq, not_true_eq_false, decide_false, Bool.false_or, decide_eq_true_eq]
    rw [if_neg (by omega)]
    have hz : (c.toArray.zipIdx.foldl (fun cs x => cs.setIfInBounds (j * sz + x.2) x.1) l.toArray) = (over l (j * sz) c).toArray := by
      have := foldl_set c (j * sz) 0 l (by omega)
      simpa using this
    have hz' : (c.toArray.zipIdx.foldl (fun (cs : Array Value) (x : Value × Nat) => match x with | (c, k) => cs.setIfInBounds (j * sz + k) c) l.toArray) = (over l (j * sz) c).toArray := hz
    rw [hz', ih (j + 1) _ (by rw [over_length (by omega)]; rw [hl]; congr 1; omega)]
    congr 2
    have e : (j + 1) * sz = j * sz + sz := by rw [Nat.add_mul, Nat.one_mul]
    rw [e]
    unfold over
    rw [List.take_append_of_le_length (by simp; omega), List.take_of_length_le (by simp; omega)]
    simp
theorem Flat.length {sz : Nat} {vs cs : List Value} (h : Flat sz vs cs) : cs.length = vs.length * sz := by
  induction h with
  | nil => simp
  | cons _ hc _ ih => simp [hc, ih, Nat.add_mul]; omega
theorem WL.buildSlice {parts : List (Nat × Operand)} {len : Nat} {e : TypeId} {sz : Nat} {z : Value} {vs : List Value} (hn : Nat.blt d n = true) (hu : P.underlying t = some (.slice e)) (hz : szB P e = some sz) (hzv : zvB P e = some z) (hzs : Nat.beq z.cells.size sz = true)
    (hi : parts.map (·.1) = List.range len) (hvs : evs F (parts.map (·.2)) = some vs) (hf : Flat sz vs cs) (hlen : Nat.beq vs.length len = true) (hsmall : Nat.ble (len * sz) (2 ^ 24) = true)
    (k : ∀ bl, WL P w0 S0 n ops Q rest ((d, .slice (some ⟨bl, 0, none⟩) len len) :: F) (.blk bl cs.toArray e :: A)) :
    WL P w0 S0 n ops Q (⟨some d, .buildSlice t len parts.toArray, T, pos, af, none⟩ :: rest) F A := by
  have hlen := Nat.eq_of_beq_eq_true hlen
  have hzs := Nat.eq_of_beq_eq_true hzs
  have hsmall := Nat.le_of_ble_eq_true hsmall
  refine .step (fun a w ha hst K hK => ?_) rfl
  have hvals : ∀ (l : List (Nat × Operand)) (vs : List Value), evs F (l.map (·.2)) = some vs → l.map (fun p => (p.1, a.eval p.2)) = (l.map (·.1)).zip vs := by
    intro l
    induction l with
    | nil => intro vs h; simp [evs] at h; simp [h]
    | cons p r ih =>
      intro vs h
      simp only [List.map_cons, evs] at h
      cases ht : ev F p.2 with
      | none => simp [ht] at h
      | some u =>
        cases hr : evs F (r.map (·.2)) with
        | none => simp [ht, hr] at h
        | some us => simp [ht, hr] at h; subst h; simp [ha.eval ht, ih us hr]
  have hzip : (List.range len).zip vs = (vs.zipIdx 0).map fun p => (p.2, p.1) := by
    have key : ∀ (vs : List Value) (j : Nat), (List.range' j vs.length).zip vs = (vs.zipIdx j).map fun p => (p.2, p.1) := by
      intro vs
      induction vs with
      | nil => intro j; rfl
      | cons v vs ih => intro j; simp [List.range'_succ, ih (j + 1)]
    rw [← hlen, List.range_eq_range']; exact key vs 0
  have hfill : Instr.fill (fun i => some (i * sz, sz)) ((Array.range (len * sz)).map ((if len * sz = 0 then #[] else z.cells)[· % (if len * sz = 0 then #[] else z.cells).size]!)) (parts.map fun p => (p.1, a.eval p.2)) = some cs.toArray := by
    rw [hvals parts vs hvs, hi, hzip]
    have er : ∀ f : Nat → Value, (Array.range (len * sz)).map f = ((List.range (len * sz)).map f).toArray := fun f => by apply Array.ext'; simp
    rw [er]
    have := fill_flat hf 0 ((List.range (len * sz)).map ((if len * sz = 0 then #[] else z.cells)[· % (if len * sz = 0 then #[] else z.cells).size]!)) (by simp [hlen])
    simpa using this
  have hrun : (execOp a.eval ⟨some d, .buildSlice t len parts.toArray, T, pos, af, none⟩).run P w = .ok (.value (.slice (some ⟨w.heap.size, 0, none⟩) len len)) (w.alloc (.cells cs.toArray e)) := by
    have hs : ¬ (2 ^ 24 < len * sz) := by omega
    by_cases h0 : len * sz = 0
    · simp only [h0, ↓reduceIte] at hfill
      simp [execOp, Instr.buildSlice, run_underlying hu, runSz hz, h0, newRow]
      rw [show (Array.map (fun _ => (default : Value)) (Array.range 0)) = Array.map (fun x => (#[] : Array Value)[x % (#[] : Array Value).size]!) (Array.range 0) from rfl, hfill]
      simp
    · simp only [h0, ↓reduceIte] at hfill
      simp [execOp, Instr.buildSlice, run_underlying hu, runSz hz, h0, runZv hzv, newRow, hs]
      rw [hfill]
      simp
  unfold Oper.wp
  rw [hrun]
  exact hK _ _ ((k _).go _ _ (ha.put (by simpa using hn) _) (hst.newBlk _ _))
end
end Go.BK
namespace Go.BK
open Go.RowKit
/-- v reads as a slice of len elements of sz cells each, the cells cs. -/
def HP.row (sz : Nat) (v : Value) (len : Nat) (cs : List Value) : HP where
  sat S w := cs.length = len * sz ∧ ((∃ p cap, v = .slice p 0 cap ∧ len = 0 ∧ ∀ b, ¬ S b) ∨
    ∃ b off cap c T fr, v = .slice (some ⟨b, off, none⟩) len cap ∧ (∀ x, S x ↔ x = b) ∧ w.heap[b]? = some (.cells c T fr) ∧ (∀ k u, cs[k]? = some u → c[off + k]? = some u) ∧ len ≤ cap)
  loc := fun ⟨hl, h⟩ hk => ⟨hl, h.imp id fun ⟨b, off, cap, c, T, fr, h1, h2, h3, h4⟩ => ⟨b, off, cap, c, T, fr, h1, h2, by rw [hk b ((h2 b).2 rfl)]; exact h3, h4⟩⟩
  bnd := fun {_ _ x} ⟨_, h⟩ hb => by
    rcases h with ⟨_, _, _, _, h⟩ | ⟨b, off, cap, c, T, fr, _, h2, h3, _⟩
    · exact (h _ hb).elim
    · rw [(h2 x).1 hb]; exact lt_of_get h3
/-- v is a slice of the call's own. -/
def HP.own (e : TypeId) (sz : Nat) (v : Value) (len : Nat) (cs : List Value) : HP where
  sat S w := cs.length = len * sz ∧ ((v = .slice none 0 0 ∧ len = 0 ∧ ∀ b, ¬ S b) ∨
    ∃ b cap sp, v = .slice (some ⟨b, 0, none⟩) len cap ∧ len ≤ cap ∧ (cs ++ sp).length = cap * sz ∧ (HP.blk b (cs ++ sp).toArray e).sat S w)
  loc := fun ⟨hl, h⟩ hk => ⟨hl, h.imp id fun ⟨b, cap, sp, h1, h2, h3, h4⟩ => ⟨b, cap, sp, h1, h2, h3, (HP.blk _ _ _).loc h4 hk⟩⟩
  bnd := fun ⟨_, h⟩ hb => by
    rcases h with ⟨_, _, h⟩ | ⟨b, cap, sp, _, _, _, h4⟩
    · exact (h _ hb).elim
    · exact (HP.blk _ _ _).bnd h4 hb
theorem own_row {e sz : Nat} {v : Value} {len : Nat} {cs : List Value} {S : BSet} {w : World} (h : (HP.own e sz v len cs).sat S w) : (HP.row sz v len cs).sat S w := by
  obtain ⟨hl, h⟩ := h
  refine ⟨hl, h.imp (fun ⟨h1, h2, h3⟩ => ⟨none, 0, h1, h2, h3⟩) ?_⟩
  rintro ⟨b, cap, sp, h1, h2, _, h4, lo, hi, h5, _⟩
  refine ⟨b, 0, cap, _, _, _, h1, h4, h5, fun k u hk => ?_, h2⟩
  have h6 := List.getElem?_eq_some_iff.1 hk
  simp [List.getElem?_append, h6.1, h6.2]
theorem blk_row {b : Nat} {T : TypeId} {sz len cap off : Nat} {l cs : List Value} {S : BSet} {w : World} (h : (HP.blk b l.toArray T).sat S w) (hl : cs.length = len * sz) (hc : ∀ k u, cs[k]? = some u → l[off + k]? = some u) (hcap : len ≤ cap) : (HP.row sz (.slice (some ⟨b, off, none⟩) len cap) len cs).sat S w := by
  obtain ⟨h1, lo, hi, h2, _⟩ := h
  exact ⟨hl, .inr ⟨b, off, cap, _, _, _, rfl, h1, h2, fun k u hk => by simpa using hc k u hk, hcap⟩⟩
theorem blk_own {b : Nat} {e : TypeId} {sz len cap : Nat} {cs sp : List Value} {S : BSet} {w : World} (h : (HP.blk b (cs ++ sp).toArray e).sat S w) (hl : cs.length = len * sz) (hc : len ≤ cap) (hs : (cs ++ sp).length = cap * sz) : (HP.own e sz (.slice (some ⟨b, 0, none⟩) len cap) len cs).sat S w :=
  ⟨hl, .inr ⟨b, cap, sp, rfl, hc, hs, h⟩⟩
theorem Sees.mono {w : World} {S : BSet} {B B' : HP} (h : Sees w S B) (k : ∀ R, B.sat R w → B'.sat R w) : Sees w S B' := by
  obtain ⟨R, h1, h2⟩ := h; exact ⟨R, k R h1, h2⟩
theorem Sees.own {w : World} {S : BSet} {e sz : Nat} {v : Value} {len : Nat} {cs : List Value} (h : Sees w S (.own e sz v len cs)) : Sees w S (.row sz v len cs) := h.mono fun _ => own_row
theorem Sees.blkRow {w : World} {S : BSet} {b : Nat} {T : TypeId} {sz len cap off : Nat} {l cs : List Value} (h : Sees w S (.blk b l.toArray T)) (hl : cs.length = len * sz) (hc : ∀ k u, cs[k]? = some u → l[off + k]? = some u) (hcap : len ≤ cap) : Sees w S (.row sz (.slice (some ⟨b, off, none⟩) len cap) len cs) := h.mono fun _ h => blk_row h hl hc hcap
theorem Sees.nilRow {w : World} {S : BSet} {sz : Nat} : Sees w S (.row sz (.slice none 0 0) 0 []) := ⟨fun _ => False, ⟨by simp, .inl ⟨_, _, rfl, rfl, fun _ h => h⟩⟩, fun _ h => h.elim⟩
theorem Sees.row_shape {w : World} {S : BSet} {sz : Nat} {v : Value} {len : Nat} {cs : List Value} (h : Sees w S (.row sz v len cs)) : (∃ p cap, v = .slice p 0 cap ∧ len = 0 ∧ cs = []) ∨ ∃ b off cap, v = .slice (some ⟨b, off, none⟩) len cap ∧ cs.length = len * sz ∧ len ≤ cap := by
  obtain ⟨R, ⟨hl, h⟩, _⟩ := h
  rcases h with ⟨p, cap, h1, h2, _⟩ | ⟨b, off, cap, _, _, _, h1, _, _, _, h5⟩
  · exact .inl ⟨p, cap, h1, h2, by subst h2; simpa using hl⟩
  · exact .inr ⟨b, off, cap, h1, hl, h5⟩
theorem row_cell {sz len cap b off k : Nat} {cs : List Value} {u : Value} (hk : cs[k]? = some u) : ∀ R w, (HP.row sz (.slice (some ⟨b, off, none⟩) len cap) len cs).sat R w → w.cell? ⟨b, off + k, none⟩ = some u := by
  rintro R w ⟨hl, h⟩
  rcases h with ⟨_, _, h, h', _⟩ | ⟨b', off', cap', c, T, fr, h1, _, h3, h4, _⟩
  · subst h'; simp at hl; subst hl; simp at hk
  · cases h1; simp [World.cell?, h3, h4 k u hk]
section
variable {P : Program} {w0 : World} {S0 : BSet} {n : Nat} {F : Fr} {A r : List HP} {ops : Array Oper} {Q : Exit → Act → World → Prop} {rest : List Oper} {d : Nat} {T : TypeId} {pos : String} {af : Array Edge} {x y : Operand} {v u : Value} {t ty e : TypeId} {k : IntKind} {a b : Int} {cs ys : List Value} {bl o sz len m : Nat}
  {dd : Option Tmp} {g : Option (Nat × Bool)}
theorem EvW.lenOwn (hx : ev F x = some v) (hu : P.underlying t = some (.slice e)) (ht : Take (.own ty sz v len cs) A r) : EvW P w0 S0 n F A ⟨dd, .call ⟨.builtin .len, #[x], #[t]⟩, T, pos, af, g⟩ (i64 len) :=
  .pure fun a' w ha hst => by
    obtain ⟨S, _, h⟩ := hst.take ht
    rcases h with ⟨h1, h2, _⟩ | ⟨b, cap, sp, h1, _⟩
    · subst h1; subst h2; simp [execOp, resolve, invoke, builtin, Builtin.len_, ha.eval hx, run_underlying hu, goInt]
    · subst h1; simp [execOp, resolve, invoke, builtin, Builtin.len_, ha.eval hx, run_underlying hu, goInt]
theorem EvW.lenRow (hx : ev F x = some v) (hu : P.underlying t = some (.slice e)) (hB : Sees w0 S0 (.row sz v len cs)) : EvW P w0 S0 n F A ⟨dd, .call ⟨.builtin .len, #[x], #[t]⟩, T, pos, af, g⟩ (i64 len) :=
  .pure fun a' w ha _ => by
    rcases hB.row_shape with ⟨p, cap, h1, h2, _⟩ | ⟨b, off, cap, h1, _⟩
    · subst h1; subst h2; simp [execOp, resolve, invoke, builtin, Builtin.len_, ha.eval hx, run_underlying hu, goInt]
    · subst h1; simp [execOp, resolve, invoke, builtin, Builtin.len_, ha.eval hx, run_underlying hu, goInt]
/-- What an append appends: m elements, the cells ys. -/
def Adds (P : Program) (w0 : World) (S0 : BSet) (A : List HP) (sz : Nat) (u : Value) (m : Nat) (ys : List Value) : Prop :=
  ys.length = m * sz ∧ ys.all (·.oneCell') = true ∧ ∀ w, St w0 S0 A w → (Builtin.lenOf u).run P w = .ok m w ∧ (Builtin.firstCells sz m u).run P w = .ok ys.toArray w
theorem runFirst {w : World} {sz m b off cap : Nat} {ys : List Value} (hl : ys.length = m * sz) (hc : ∀ j q, ys[j]? = some q → w.cell? ⟨b, off + j, none⟩ = some q) : (Builtin.firstCells sz m (.slice (some ⟨b, off, none⟩) m cap)).run P w = .ok ys.toArray w := by
  have := run_firstCells_some (P := P) w sz m ⟨b, off, none⟩ m cap ys hl (fun j q hj => by rw [add_at]; exact hc j q hj)
  simpa using this
theorem adds_row (h : Sees w0 S0 (.row sz u m ys)) (h1 : ys.all (·.oneCell') = true) : Adds P w0 S0 A sz u m ys := by
  refine ⟨?_, h1, fun w hst => ?_⟩
  · obtain ⟨R, ⟨hl, _⟩, _⟩ := h; exact hl
  obtain ⟨R, hl, h⟩ := h.at hst
  rcases h with ⟨p, cap, h1, h2, _⟩ | ⟨b, off, cap, c, T, fr, h1, _, h3, h4, _⟩
  · subst h1; subst h2; simp at hl; subst hl; cases p <;> simp [Builtin.lenOf, Builtin.firstCells, loadCells, loadCellsFrom]
  · subst h1
    refine ⟨by simp [Builtin.lenOf], runFirst hl fun j q hj => ?_⟩
    simp [World.cell?, h3, h4 j q hj]
theorem adds_own {ee : TypeId} (ht : Take (.own ee sz u m ys) A r) (hl : ys.length = m * sz) (h1 : ys.all (·.oneCell') = true) : Adds P w0 S0 A sz u m ys := by
  refine ⟨hl, h1, fun w hst => ?_⟩
  obtain ⟨S, h⟩ := hst.take ht
  obtain ⟨hl, h⟩ := own_row h
  rcases h with ⟨p, cap, h1, h2, _⟩ | ⟨b, off, cap, c, T, fr, h1, _, h3, h4, _⟩
  · subst h1; subst h2; simp at hl; subst hl; cases p <;> simp [Builtin.lenOf, Builtin.firstCells, loadCells, loadCellsFrom]
  · subst h1
    refine ⟨by simp [Builtin.lenOf], runFirst hl fun j q hj => ?_⟩
    simp [World.cell?, h3, h4 j q hj]
theorem adds_blk {cap : Nat} {ee : TypeId} (ht : Take (.blk bl ys.toArray ee) A r) (hl : ys.length = m * sz) (h1 : ys.all (·.oneCell') = true) : Adds P w0 S0 A sz (.slice (some ⟨bl, 0, none⟩) m cap) m ys := by
  refine ⟨hl, h1, fun w hst => ⟨by simp [Builtin.lenOf], runFirst hl fun j q hj => ?_⟩⟩
  have := (hst.blk ht).cell (o := j) (v := q) (by simpa using hj)
  simpa using this
abbrev byt (c : UInt8) : Value := .int .u8 c.toNat
theorem all_one {l : List UInt8} : (l.map byt).all (·.oneCell') = true := by simp [Value.oneCell']
/-- The type of what is appended: a slice, or a string. -/
def notInt (P : Program) (t : TypeId) : Bool :=
  match P.underlying t with
  | some (.slice _) | some .string => true
  | _ => false
theorem notInt_or {P : Program} {t : TypeId} (h : notInt P t = true) : (∃ e, P.underlying t = some (.slice e)) ∨ P.underlying t = some .string := by
  unfold notInt at h
  split at h
  · rename_i e he; exact .inl ⟨e, he⟩
  · rename_i he; exact .inr he
  · simp at h
theorem runStoreOne {w : World} {l cs : List Value} {lo hi : Nat} (h : w.heap[bl]? = some (.cells l.toArray T (lo, hi))) (hf : ∀ x, x < l.length → ¬ (lo ≤ x ∧ x < hi)) (h1 : cs.all (·.oneCell') = true) (hl : o + cs.length ≤ l.length) :
    (storeCells ⟨bl, o, none⟩ cs).run P w = .ok () { w with heap := w.heap.setIfInBounds bl (.cells (over l o cs).toArray T (lo, hi)) } := by
  have := runStoreCells (P := P) cs o 0 l w h hf h1 (by omega)
  simpa using this
theorem runAppendIn {w w' : World} {cap : Nat} (hu : P.underlying t = some (.slice e)) (hz : szB P e = some sz) (hni : notInt P ty = true) (h2 : (Builtin.lenOf u).run P w = .ok m w) (hfit : len + m ≤ cap)
    (h3 : (Builtin.firstCells sz m u).run P w = .ok ys.toArray w) (hst : (storeCells ⟨bl, len * sz, none⟩ ys).run P w = .ok () w') :
    (Builtin.append_ #[t, ty] T #[.slice (some ⟨bl, 0, none⟩) len cap, u]).run P w = .ok (.slice (some ⟨bl, 0, none⟩) (len + m) cap) w' := by
  have ha : Addr.add ⟨bl, 0, none⟩ (len * sz) = ⟨bl, len * sz, none⟩ := by rw [add_at]; simp
  rcases notInt_or hni with ⟨_, hdd⟩ | hdd <;> simp [Builtin.append_, run_underlying hu, runSz hz, run_underlying hdd, h2, hfit, h3, ha, hst]
theorem runAppendNil {w : World} (hu : P.underlying t = some (.slice e)) (hz : szB P e = some sz) (hni : notInt P ty = true) (h2 : (Builtin.lenOf u).run P w = .ok 0 w)
    (h3 : (Builtin.firstCells sz 0 u).run P w = .ok ys.toArray w) :
    (Builtin.append_ #[t, ty] T #[.slice none 0 0, u]).run P w = .ok (.slice none 0 0) w := by
  rcases notInt_or hni with ⟨_, hdd⟩ | hdd <;> simp [Builtin.append_, run_underlying hu, runSz hz, run_underlying hdd, h2, h3]
theorem runAppendGrow {w : World} {p : Option Addr} {cap nc : Nat} {inf : TypeInfo} {z : Value} {sp : List Value} (hu : P.underlying t = some (.slice e)) (hz : szB P e = some sz) (hni : notInt P ty = true)
    (hinf : P.info? e = some inf) (hb0 : ¬ inf.bytes = 0) (hzv : zvB P e = some z) (h2 : (Builtin.lenOf u).run P w = .ok m w) (hfit : cap < len + m) (hnc : (Question.appendCap (len + m) cap e).cut (w.tape w.drawn (Question.appendCap (len + m) cap e)) = nc)
    (hroom : (len + m) * inf.bytes ≤ 140737488355328) (hold : (Builtin.firstCells sz len (.slice p len cap)).run P w.drew = .ok cs.toArray w.drew) (h3 : (Builtin.firstCells sz m u).run P w.drew = .ok ys.toArray w.drew)
    (hsp : Builtin.zeroCells z.cells (nc - (len + m)) = sp.toArray) :
    (Builtin.append_ #[t, ty] T #[.slice p len cap, u]).run P w = .ok (.slice (some ⟨w.heap.size, 0, none⟩) (len + m) nc) (w.drew.alloc (.cells ((cs ++ ys) ++ sp).toArray e)) := by
  have hfit2 : ¬ (2 ^ 48 < Builtin.nextslicecap (len + m) cap * inf.bytes) := by
    have := growslice_fits (bytes := inf.bytes) hfit hroom; omega
  have hle : ¬ (len + m ≤ cap) := by omega
  have hti : ∀ w' : World, (typeInfo e).run P w' = .ok inf w' := fun w' => run_typeInfo w' hinf
  have hnw : ∀ (w' : World) (c : Array Value), (newRow e c).run P w' = .ok ⟨w'.heap.size, 0, none⟩ (w'.alloc (.cells c e)) := fun w' c => by simp [newRow]
  rcases notInt_or hni with ⟨_, hdd⟩ | hdd <;> simp [Builtin.append_, run_underlying hu, runSz hz, run_underlying hdd, h2, hle, hti, hb0, hfit2, Question.forced, hnc, hold, h3, runZv hzv, hsp, hnw]
theorem runCallB {w w' : World} {bi : Builtin} {args : Array Operand} {ts : Array TypeId} {act : Act} {vals : Array Value} (hv : args.map act.eval = vals) (h : (builtin bi ts T (args.map fun | .const _ => true | _ => false) vals).run P w = .ok (.value v) w') :
    (execOp act.eval ⟨dd, .call ⟨.builtin bi, args, ts⟩, T, pos, af, g⟩).run P w = .ok (.value v) w' := by
  simp only [execOp, resolve, hv, Sem.run_bind, Sem.run_pure, Result.andThen, invoke]
  exact h
theorem WL.append {bts : Nat} {z : Value} (hn : Nat.blt d n = true) (hx : ev F x = some v) (hy : ev F y = some u) (hu : P.underlying t = some (.slice e)) (hz : szB P e = some sz) (hb : byB P e = some bts) (hzv : zvB P e = some z) (hzs : Nat.beq z.cells.size sz = true) (hni : notInt P ty = true)
    (hb0 : Nat.beq bts 0 = false) (ht : Take (.own e sz v len cs) A r) (ha : Adds P w0 S0 A sz u m ys) (hroom : (len + m) * bts ≤ 140737488355328)
    (k : ∀ v', WL P w0 S0 n ops Q rest ((d, v') :: F) (.own e sz v' (len + m) (cs ++ ys) :: r)) :
    WL P w0 S0 n ops Q (⟨some d, .call ⟨.builtin .append, #[x, y], #[t, ty]⟩, T, pos, af, none⟩ :: rest) F A := by
  refine .step (fun a w haa hst K hK => ?_) rfl
  obtain ⟨hyl, hy1, hyr⟩ := ha
  obtain ⟨hy2, hy3⟩ := hyr w hst
  have hzs := Nat.eq_of_beq_eq_true hzs
  obtain ⟨inf, hinf, hby⟩ : ∃ inf, P.info? e = some inf ∧ inf.bytes = bts := by
    unfold byB at hb
    cases h : P.info? e with
    | none => simp [h] at hb
    | some i => simp [h] at hb; exact ⟨i, rfl, hb⟩
  subst hby
  have hb0' : ¬ inf.bytes = 0 := Nat.ne_of_beq_eq_false hb0
  have fin : ∀ v' w', (Builtin.append_ #[t, ty] T #[v, u]).run P w = .ok v' w' → St w0 S0 (.own e sz v' (len + m) (cs ++ ys) :: r) w' → Oper.wp P ⟨some d, .call ⟨.builtin .append, #[x, y], #[t, ty]⟩, T, pos, af, none⟩ a w K Q := by
    intro v' w' hr hs'
    unfold Oper.wp
    rw [runCallB (vals := #[v, u]) (v := v') (w' := w') (by simp [haa.eval hx, haa.eval hy]) (by simp [builtin, hr])]
    exact hK _ _ ((k v').go _ _ (haa.put (by simpa using hn) _) hs')
  obtain ⟨S, h1, h2, h3⟩ := id hst
  obtain ⟨S1, S2, hun, hdis, ⟨hcl, h4⟩, h5⟩ := ht.star h1
  have grow : ∀ p sCap, v = .slice p len sCap → sCap < len + m → (∀ w', w'.heap = w.heap → (Builtin.firstCells sz len v).run P w' = .ok cs.toArray w') → Oper.wp P ⟨some d, .call ⟨.builtin .append, #[x, y], #[t, ty]⟩, T, pos, af, none⟩ a w K Q := by
    intro p sCap hv hlt hfc
    subst hv
    have hge : len + m ≤ (Question.appendCap (len + m) sCap e).cut (w.tape w.drawn (Question.appendCap (len + m) sCap e)) := by simp [Question.cut]
    generalize hnc : (Question.appendCap (len + m) sCap e).cut (w.tape w.drawn (Question.appendCap (len + m) sCap e)) = nc at hge
    obtain ⟨sp, hsp1, hsp2⟩ : ∃ sp : List Value, Builtin.zeroCells z.cells (nc - (len + m)) = sp.toArray ∧ sp.length = (nc - (len + m)) * sz :=
      ⟨(Builtin.zeroCells z.cells (nc - (len + m))).toList, by simp, by simp [Builtin.zeroCells, hzs]⟩
    have hD : St w0 S0 A w.drew := hst.drew _
    refine fin _ _ (runAppendGrow hu hz hni hinf hb0' hzv hy2 hlt hnc hroom (hfc _ rfl) (hyr _ hD).2 hsp1) ?_
    have hN := (hD.drop ht).newBlk ((cs ++ ys) ++ sp).toArray e
    refine hN.mono fun S' w' hs' => star_mono hs' (fun S'' h => blk_own h (by simp [hcl, hyl, Nat.add_mul]) hge ?_) fun _ h => h
    simp only [List.length_append, hcl, hyl, hsp2, ← Nat.add_mul]
    congr 1; omega
  rcases h4 with ⟨h4, h5', h6⟩ | ⟨b, cap, sp, h4, h5', h6, h7⟩
  · subst h4; subst h5'
    simp at hcl; subst hcl
    by_cases hm : m = 0
    · subst hm
      simp at hyl; subst hyl
      exact fin _ w (runAppendNil hu hz hni hy2 hy3) ⟨S, ⟨S1, S2, hun, hdis, ⟨by simp, .inl ⟨rfl, rfl, h6⟩⟩, h5⟩, h2, h3⟩
    · exact grow none 0 rfl (by omega) (fun w' _ => by simp [Builtin.firstCells])
  · by_cases hfit : len + m ≤ cap
    · subst h4
      obtain ⟨hS1, lo, hi, hh, hfr⟩ := h7
      have hle : len * sz + ys.length ≤ (cs ++ sp).length := by rw [h6, hyl, ← Nat.add_mul]; exact Nat.mul_le_mul_right _ hfit
      have hstr := runStoreOne (P := P) (o := len * sz) hh (by simpa using hfr) hy1 hle
      have hov : over (cs ++ sp) (len * sz) ys = (cs ++ ys) ++ sp.drop ys.length := by
        unfold over
        rw [← hcl]
        simp
      rw [hov] at hstr
      refine fin _ _ (runAppendIn hu hz hni hy2 hfit hy3 hstr) ?_
      have hA : St w0 S0 (.blk b (cs ++ sp).toArray e :: r) w := ⟨S, ⟨S1, S2, hun, hdis, ⟨hS1, lo, hi, hh, hfr⟩, h5⟩, h2, h3⟩
      have hupd : St w0 S0 (.blk b ((cs ++ ys) ++ sp.drop ys.length).toArray e :: r) { w with heap := w.heap.setIfInBounds b (.cells ((cs ++ ys) ++ sp.drop ys.length).toArray e (lo, hi)) } := by
        refine hA.write .head (fun lo' hi' h8 _ => ?_) (by rw [← hov]; exact over_length hle)
        rw [hh] at h8
        injection h8 with h8
        cases h8
        rfl
      exact hupd.mono fun S' w' hs' => star_mono hs' (fun S'' h => blk_own h (by simp [hcl, hyl, Nat.add_mul]) hfit (by rw [← hov, over_length hle, h6])) fun _ h => h
    · exact grow (some ⟨b, 0, none⟩) cap h4 (by omega) (fun w' hw' => by
        subst h4
        obtain ⟨hS1, lo, hi, hh, hfr⟩ := h7
        refine runFirst hcl fun j q hj => ?_
        have h6 := List.getElem?_eq_some_iff.1 hj
        simp [World.cell?, hw', hh, List.getElem?_append, h6.1, h6.2])
end
end Go.BK
namespace Go.BK
open Go.RowKit
/-- The operation answers v, and turns what is owned from A to A'. -/
structure EffW (P : Program) (w0 : World) (S0 : BSet) (n : Nat) (F : Fr) (A A' : List HP) (o : Oper) (v : Value) : Prop where
  go : ∀ (Q : Exit → Act → World → Prop) (K : Act → World → Prop) (a : Act) (w : World), Agr n F a → St w0 S0 A w → (∀ w', St w0 S0 A' w' → K (a.put o.dst v) w') → o.wp P a w K Q
abbrev Done := List (Oper × Value)
def Done.frO (d : Option (Oper × Value)) : Fr := match d with
  | some (o, v) => match o.dst with
    | some t => [(t, v)]
    | none => []
  | none => []
/-- What an operation may lean on: what stood before the region, and what those gave that come ahead of it in every order. -/
def preF (F0 : Fr) (done : Done) : List Edge → Fr
  | [] => F0
  | e :: r => Done.frO done[e.on]? ++ preF F0 done r
def allF (F0 : Fr) : Done → Fr
  | [] => F0
  | d :: r => Done.frO (some d) ++ allF F0 r
/-- Is a guarded operation wanted? -/
def wants (done : Done) : Option (Nat × Bool) → Option Bool
  | none => some true
  | some (j, b) => match done[j]? with
    | some (o, .bool c) => if o.dst.isSome then some (c == b) else none
    | some (o, _) => if o.dst.isSome then some false else none
    | none => none
/-- Does i come ahead of j in every order? -/
def ahead (ops : List Oper) : Nat → Nat → Nat → Bool
  | 0, _, _ => false
  | f + 1, i, j => match ops[j]? with
    | some o => o.after.toList.any fun e => Region.binds .any e && (e.on == i || ahead ops f i e.on)
    | none => false
/-- What binds a step in any order. -/
def aft (o : Oper) : List Edge := o.after.toList.filter fun e => Region.binds .any e
theorem mem_aft {o : Oper} {e : Edge} : e ∈ aft o ↔ e ∈ o.after.toList ∧ Region.binds .any e = true := by simp [aft]
/-- The edges that bind point back; a guard is among them. -/
def edgesOk (i : Nat) (o : Oper) : Bool := (o.guard.all fun g => (aft o).any fun e => e.on == g.1) && (aft o).all fun e => Nat.blt e.on i
def edgesAll : Nat → List Oper → Bool
  | _, [] => true
  | i, o :: r => edgesOk i o && edgesAll (i + 1) r
/-- Between which steps that turn memory a quiet one lies, in every order. -/
def rangeOk (ops : List Oper) (eff : List Nat) (i lo hi : Nat) : Bool :=
  (lo == 0 || (eff[lo - 1]?).any fun e => ahead ops ops.length e i) && (hi == eff.length || (eff[hi]?).any fun e => ahead ops ops.length i e) && !eff.contains i
/-- What stands at a place of a list that is told backwards. -/
def nthR : Done → Nat → Nat → Option (Oper × Value)
  | [], _, _ => none
  | _ :: _, 0, _ => none
  | x :: r, n + 1, i => bif Nat.beq n i then some x else nthR r n i
def preR (F0 : Fr) (done : Done) (n : Nat) : List Edge → Fr
  | [] => F0
  | e :: r => Done.frO (nthR done n e.on) ++ preR F0 done n r
def wantR (done : Done) (n : Nat) : Option (Nat × Bool) → Option Bool
  | none => some true
  | some (j, b) => match nthR done n j with
    | some (o, .bool c) => if o.dst.isSome then some (c == b) else none
    | some (o, _) => if o.dst.isSome then some false else none
    | none => none
theorem nthR_eq (done : Done) (i : Nat) : nthR done done.length i = done.reverse[i]? := by
  induction done with
  | nil => simp [nthR]
  | cons x r ih =>
    simp only [List.length_cons, nthR, List.reverse_cons]
    by_cases e : r.length = i
    · subst e; simp
    · rw [beqF e, cond_false, ih]
      by_cases h : i < r.length
      · rw [List.getElem?_append_left (by simpa using h)]
      · rw [List.getElem?_eq_none (by simp; omega), List.getElem?_eq_none (by simp; omega)]
theorem preR_eq (F0 : Fr) (done : Done) (es : List Edge) : preR F0 done done.length es = preF F0 done.reverse es := by
  induction es with
  | nil => rfl
  | cons e r ih => simp only [preR, preF, nthR_eq, ih]
theorem wantR_eq (done : Done) (g : Option (Nat × Bool)) : wantR done done.length g = wants done.reverse g := by
  cases g with
  | none => rfl
  | some g => simp only [wantR, wants, nthR_eq]
section
variable (P : Program) (w0 : World) (S0 : BSet) (n : Nat) (ops : List Oper) (F0 : Fr) (Av : Nat → List HP) (eff : List Nat)
/-- The steps of a region, told one by one in the order of the text; what is done stands backwards. -/
inductive Draws : Nat → Done → List Oper → Done → Prop
  | nil {i : Nat} {done : Done} : Draws i done [] done
  | quiet {i : Nat} {done all : Done} {o : Oper} (v : Value) {rest : List Oper} (lo hi : Nat) (hw : wantR done i o.guard = some true) (hr : rangeOk ops eff i lo hi = true)
      (h : ∀ m, lo ≤ m → m ≤ hi → EvW P w0 S0 n (preR F0 done i (aft o)) (Av m) o v) (k : Draws (i + 1) ((o, v) :: done) rest all) : Draws i done (o :: rest) all
  | skip {i : Nat} {done all : Done} {o : Oper} {rest : List Oper} (hw : wantR done i o.guard = some false) (hne : eff.contains i = false)
      (k : Draws (i + 1) ((o, undef) :: done) rest all) : Draws i done (o :: rest) all
  | eff {i : Nat} {done all : Done} {o : Oper} (v : Value) {rest : List Oper} (j : Nat) (hj : eff[j]? = some i) (hw : wantR done i o.guard = some true)
      (h : EffW P w0 S0 n (preR F0 done i (aft o)) (Av j) (Av (j + 1)) o v) (k : Draws (i + 1) ((o, v) :: done) rest all) : Draws i done (o :: rest) all
end
section
variable {P : Program} {w0 : World} {S0 : BSet} {n : Nat} {ops : List Oper} {F0 : Fr} {Av : Nat → List HP} {eff : List Nat}
/-- One step, at its place. -/
def StepOk (P : Program) (w0 : World) (S0 : BSet) (n : Nat) (ops : List Oper) (F0 : Fr) (Av : Nat → List HP) (eff : List Nat) (all : Done) (i : Nat) (o : Oper) (v : Value) : Prop :=
  edgesOk i o = true ∧
  ((wants all o.guard = some true ∧ eff.contains i = false ∧ ∃ lo hi, (lo == 0 || (eff[lo - 1]?).any fun e => ahead ops ops.length e i) = true ∧ (hi == eff.length || (eff[hi]?).any fun e => ahead ops ops.length i e) = true ∧ ∀ m, lo ≤ m → m ≤ hi → EvW P w0 S0 n (preF F0 all (aft o)) (Av m) o v) ∨
   (wants all o.guard = some false ∧ eff.contains i = false ∧ v = undef) ∨
   (wants all o.guard = some true ∧ ∃ j, eff[j]? = some i ∧ EffW P w0 S0 n (preF F0 all (aft o)) (Av j) (Av (j + 1)) o v))
theorem wants_mono {done more : Done} {g : Option (Nat × Bool)} {b : Bool} (h : wants done g = some b) : wants (done ++ more) g = some b := by
  cases g with
  | none => exact h
  | some g =>
    obtain ⟨j, c⟩ := g
    simp only [wants] at h ⊢
    cases hd : done[j]? with
    | none => simp [hd] at h
    | some d =>
      have : (done ++ more)[j]? = some d := by rw [List.getElem?_append_left (List.getElem?_eq_some_iff.1 hd).1]; exact hd
      rw [this]; rw [hd] at h; exact h
theorem preF_mono {done more : Done} {es : List Edge} (hlt : ∀ e ∈ es, e.on < done.length) : preF F0 (done ++ more) es = preF F0 done es := by
  induction es with
  | nil => rfl
  | cons e r ih =>
    simp only [preF]
    rw [ih fun e he => hlt e (List.mem_cons_of_mem _ he), List.getElem?_append_left (hlt e (List.mem_cons_self ..))]
theorem edgesOk_lt {i : Nat} {o : Oper} (h : edgesOk i o = true) : ∀ e ∈ aft o, e.on < i ∧ Region.binds .any e = true := by
  intro e he
  simp only [edgesOk, Bool.and_eq_true, List.all_eq_true] at h
  have := h.2 e he
  exact ⟨by simpa using this, (mem_aft.1 he).2⟩
theorem Draws.ok {i0 : Nat} {done all : Done} {rest : List Oper} (h : Draws P w0 S0 n ops F0 Av eff i0 done rest all) : i0 = done.length → edgesAll i0 rest = true →
    ∃ more : Done, all.reverse = done.reverse ++ more ∧ more.map (·.1) = rest ∧ ∀ i o v, more[i]? = some (o, v) → StepOk P w0 S0 n ops F0 Av eff all.reverse (done.length + i) o v := by
  have key : ∀ {done all : Done} {o : Oper} {v : Value} {rest : List Oper}, (∃ more : Done, all.reverse = ((o, v) :: done).reverse ++ more ∧ more.map (·.1) = rest ∧ ∀ i o' v', more[i]? = some (o', v') → StepOk P w0 S0 n ops F0 Av eff all.reverse (((o, v) :: done).length + i) o' v') →
      (∀ more, all.reverse = done.reverse ++ more → StepOk P w0 S0 n ops F0 Av eff all.reverse done.length o v) → ∃ more : Done, all.reverse = done.reverse ++ more ∧ more.map (·.1) = o :: rest ∧ ∀ i o' v', more[i]? = some (o', v') → StepOk P w0 S0 n ops F0 Av eff all.reverse (done.length + i) o' v' := by
    intro done all o v rest ⟨more, h1, h2, h3⟩ h4
    have h1' : all.reverse = done.reverse ++ ((o, v) :: more) := by rw [h1]; simp
    refine ⟨(o, v) :: more, h1', by simp [h2], fun i o' v' hi => ?_⟩
    cases i with
    | zero => simp at hi; obtain ⟨rfl, rfl⟩ := hi; exact h4 _ h1'
    | succ i =>
      have := h3 i o' v' (by simpa using hi)
      rw [show done.length + (i + 1) = ((o, v) :: done).length + i from by simp; omega]
      exact this
  induction h with
  | nil => intro _ _; exact ⟨[], by simp, rfl, fun i o v h => by simp at h⟩
  | @quiet i0 done all o v rest lo hi hw hr h _ ih =>
    intro hi0 he
    simp only [edgesAll, Bool.and_eq_true] at he
    subst hi0
    have hg := he.1
    simp only [rangeOk, Bool.and_eq_true, Bool.not_eq_true'] at hr
    refine key (ih (by simp) he.2) fun more hm => ⟨hg, .inl ⟨?_, hr.2, lo, hi, hr.1.1, hr.1.2, ?_⟩⟩
    · rw [hm]; rw [wantR_eq] at hw; exact wants_mono hw
    · rw [hm, preF_mono fun e he => by simpa using (edgesOk_lt hg e he).1]; rw [preR_eq] at h; exact h
  | @skip i0 done all o rest hw hne _ ih =>
    intro hi0 he
    simp only [edgesAll, Bool.and_eq_true] at he
    subst hi0
    refine key (ih (by simp) he.2) fun more hm => ⟨he.1, .inr (.inl ⟨?_, hne, rfl⟩)⟩
    rw [hm]; rw [wantR_eq] at hw; exact wants_mono hw
  | @eff i0 done all o v rest j hj hw h _ ih =>
    intro hi0 he
    simp only [edgesAll, Bool.and_eq_true] at he
    subst hi0
    have hg := he.1
    refine key (ih (by simp) he.2) fun more hm => ⟨hg, .inr (.inr ⟨?_, j, hj, ?_⟩)⟩
    · rw [hm]; rw [wantR_eq] at hw; exact wants_mono hw
    · rw [hm, preF_mono fun e he => by simpa using (edgesOk_lt hg e he).1]; rw [preR_eq] at h; exact h
/-- No slot is written twice, and none that is leant on from before. -/
def slotsOk (F0 : Fr) : List Oper → List Nat → Bool
  | [], _ => true
  | o :: r, seen => match o.dst with
    | some d => !seen.contains d && (F0.get d).isNone && slotsOk F0 r (d :: seen)
    | none => slotsOk F0 r seen
theorem slotsOk_get {l : List Oper} {seen : List Nat} (h : slotsOk F0 l seen = true) : (∀ (i : Nat) (o : Oper) (d : Nat), l[i]? = some o → o.dst = some d → seen.contains d = false ∧ F0.get d = none) ∧ ∀ (i j : Nat) (o o' : Oper) (d : Nat), l[i]? = some o → l[j]? = some o' → o.dst = some d → o'.dst = some d → i = j := by
  induction l generalizing seen with
  | nil => exact ⟨fun i o d h => by simp at h, fun i j o o' d h => by simp at h⟩
  | cons o r ih =>
    simp only [slotsOk] at h
    cases hd : o.dst with
    | none =>
      rw [hd] at h
      obtain ⟨h1, h2⟩ := ih h
      refine ⟨fun i o' d hi ho => ?_, fun i j o1 o2 d hi hj h3 h4 => ?_⟩
      · cases i with
        | zero => simp at hi; subst hi; rw [hd] at ho; cases ho
        | succ i => exact h1 i o' d (by simpa using hi) ho
      · cases i with
        | zero => simp at hi; subst hi; rw [hd] at h3; cases h3
        | succ i => cases j with
          | zero => simp at hj; subst hj; rw [hd] at h4; cases h4
          | succ j => rw [h2 i j o1 o2 d (by simpa using hi) (by simpa using hj) h3 h4]
    | some d0 =>
      rw [hd] at h
      simp only [Bool.and_eq_true, Bool.not_eq_true', Option.isNone_iff_eq_none] at h
      obtain ⟨⟨h0, h0'⟩, h⟩ := h
      obtain ⟨h1, h2⟩ := ih h
      refine ⟨fun i o' d hi ho => ?_, fun i j o1 o2 d hi hj h3 h4 => ?_⟩
      · cases i with
        | zero => simp at hi; subst hi; rw [hd] at ho; cases ho; exact ⟨h0, h0'⟩
        | succ i => have := h1 i o' d (by simpa using hi) ho; simp at this ⊢; exact ⟨this.1.2, this.2⟩
      · cases i with
        | zero =>
          simp at hi; subst hi; rw [hd] at h3; cases h3
          cases j with
          | zero => rfl
          | succ j => have := h1 j o2 d0 (by simpa using hj) h4; simp at this
        | succ i => cases j with
          | zero => simp at hj; subst hj; rw [hd] at h4; cases h4; have := h1 i o1 d0 (by simpa using hi) h3; simp at this
          | succ j => rw [h2 i j o1 o2 d (by simpa using hi) (by simpa using hj) h3 h4]
def chainOk (ops : List Oper) : List Nat → Bool
  | a :: b :: r => ahead ops ops.length a b && Nat.blt a b && chainOk ops (b :: r)
  | _ => true
theorem ahead_in {L : Nat → Prop} (hd : ∀ i o, L i → ops[i]? = some o → ∀ e ∈ aft o, L e.on) : ∀ (f i j : Nat), ahead ops f i j = true → (∀ o, ops[j]? = some o → ∀ e ∈ aft o, L e.on) → L i := by
  intro f
  induction f with
  | zero => intro i j h _; simp [ahead] at h
  | succ f ih =>
    intro i j h hp
    simp only [ahead] at h
    cases ho : ops[j]? with
    | none => simp [ho] at h
    | some o =>
      simp only [ho, List.any_eq_true, Bool.and_eq_true, Bool.or_eq_true, beq_iff_eq] at h
      obtain ⟨e, he, hbd, h⟩ := h
      have he := mem_aft.2 ⟨he, hbd⟩
      rcases h with h | h
      · rw [← h]; exact hp o ho e he
      · exact ih i e.on h fun o' ho' => hd e.on o' (hp o ho e he) ho'
theorem preF_get {all : Done} {es : List Edge} {t : Nat} {u : Value} (h : (preF F0 all es).get t = some u) : F0.get t = some u ∨ ∃ e ∈ es, ∃ (o : Oper) (d : Nat), all[e.on]? = some (o, u) ∧ o.dst = some d ∧ d = t := by
  induction es with
  | nil => exact .inl h
  | cons e r ih =>
    simp only [preF] at h
    have rc : (preF F0 all r).get t = some u → F0.get t = some u ∨ ∃ e' ∈ e :: r, ∃ (o : Oper) (d : Nat), all[e'.on]? = some (o, u) ∧ o.dst = some d ∧ d = t := fun h => (ih h).imp id fun ⟨e', he, x⟩ => ⟨e', List.mem_cons_of_mem _ he, x⟩
    cases ha : all[e.on]? with
    | none => rw [ha] at h; exact rc h
    | some x =>
      obtain ⟨o, v⟩ := x
      rw [ha] at h
      simp only [Done.frO] at h
      cases hd : o.dst with
      | none => rw [hd] at h; exact rc h
      | some d =>
        rw [hd] at h
        simp only [List.cons_append, List.nil_append, Fr.get] at h
        by_cases e1 : d = t
        · subst e1; simp at h; subst h; exact .inr ⟨e, List.mem_cons_self .., o, d, ha, hd, rfl⟩
        · rw [beqF e1] at h; exact rc h
theorem allF_get {all : Done} {t : Nat} {u : Value} (h : (allF F0 all).get t = some u) : F0.get t = some u ∨ ∃ (i : Nat) (o : Oper), all[i]? = some (o, u) ∧ o.dst = some t := by
  induction all with
  | nil => exact .inl h
  | cons x r ih =>
    obtain ⟨o, v⟩ := x
    simp only [allF, Done.frO] at h
    have rc : (allF F0 r).get t = some u → F0.get t = some u ∨ ∃ (i : Nat) (o' : Oper), ((o, v) :: r)[i]? = some (o', u) ∧ o'.dst = some t := fun h => (ih h).imp id fun ⟨i, o', h1, h2⟩ => ⟨i + 1, o', by simpa using h1, h2⟩
    cases hd : o.dst with
    | none => rw [hd] at h; exact rc h
    | some d =>
      rw [hd] at h
      simp only [List.cons_append, List.nil_append, Fr.get] at h
      by_cases e1 : d = t
      · subst e1; simp at h; subst h; exact .inr ⟨0, o, rfl, hd⟩
      · rw [beqF e1] at h; exact rc h
theorem chainOk_get : ∀ {eff : List Nat}, chainOk ops eff = true → ∀ j a b : Nat, eff[j]? = some a → eff[j + 1]? = some b → ahead ops ops.length a b = true ∧ a < b
  | [], _, j, a, b, h, _ => by simp at h
  | [_], _, j, a, b, _, h => by cases j <;> simp at h
  | x :: y :: r, hc, j, a, b, h1, h2 => by
    simp only [chainOk, Bool.and_eq_true] at hc
    cases j with
    | zero => simp at h1 h2; subst h1; subst h2; exact ⟨hc.1.1, by simpa using hc.1.2⟩
    | succ j => exact chainOk_get hc.2 j a b (by simpa using h1) (by simpa using h2)
theorem chainOk_inj {eff : List Nat} (h : chainOk ops eff = true) : ∀ (i j a : Nat), eff[i]? = some a → eff[j]? = some a → i = j := by
  have mono : ∀ d i a b : Nat, eff[i]? = some a → eff[i + (d + 1)]? = some b → a < b := by
    intro d
    induction d with
    | zero => intro i a b h1 h2; exact (chainOk_get h i a b h1 h2).2
    | succ d ih =>
      intro i a b h1 h2
      have hlt : i + (d + 1) < eff.length := by have := (List.getElem?_eq_some_iff.1 h2).1; omega
      have h3 := ih i a _ h1 (List.getElem?_eq_getElem hlt)
      have h4 := (chainOk_get h (i + (d + 1)) _ b (List.getElem?_eq_getElem hlt) (by rw [show i + (d + 1) + 1 = i + (d + 1 + 1) from by omega]; exact h2)).2
      omega
  intro i j a h1 h2
  rcases Nat.lt_trichotomy i j with hlt | he | hlt
  · obtain ⟨d, hd⟩ : ∃ d, j = i + (d + 1) := ⟨j - i - 1, by omega⟩
    subst hd; have := mono d i a a h1 h2; omega
  · exact he
  · obtain ⟨d, hd⟩ : ∃ d, i = j + (d + 1) := ⟨i - j - 1, by omega⟩
    subst hd; have := mono d j a a h2 h1; omega
/-- Where a walk through the region stands. -/
structure Mid (w0 : World) (S0 : BSet) (n : Nat) (ops : List Oper) (F0 : Fr) (Av : Nat → List HP) (eff : List Nat) (all : Done) (L : Array Bool) (a : Act) (w : World) : Prop where
  size : L.size = ops.length
  down : ∀ (i : Nat) (o : Oper), L[i]? = some true → ops[i]? = some o → ∀ e ∈ aft o, L[e.on]? = some true
  base : Agr n F0 a
  told : ∀ (i : Nat) (o : Oper) (v : Value) (d : Nat), L[i]? = some true → all[i]? = some (o, v) → o.dst = some d → a.tmps[d]? = some v
  st : ∃ m, (∀ j e, eff[j]? = some e → (L[e]? = some true ↔ j < m)) ∧ m ≤ eff.length ∧ St w0 S0 (Av m) w
theorem listedB {L : Array Bool} {i : Nat} : (L.getD i false = true) ↔ L[i]? = some true := by
  rw [Array.getD_eq_getD_getElem?]
  cases h : L[i]? <;> simp
theorem mem_ready {L : Array Bool} {i : Nat} (h : i ∈ Region.ready .any ops.toArray L) (hb : ∀ o ∈ ops, ∀ e ∈ aft o, Region.binds .any e = true) :
    i < ops.length ∧ ¬ L[i]? = some true ∧ ∃ o, ops[i]? = some o ∧ ∀ e ∈ aft o, L[e.on]? = some true := by
  simp only [Region.ready, List.mem_filter, List.mem_range, Bool.and_eq_true, Bool.not_eq_true', List.size_toArray, List.getElem?_toArray] at h
  obtain ⟨h1, h2, h3⟩ := h
  refine ⟨h1, fun h => ?_, ?_⟩
  · rw [Array.getD_eq_getD_getElem?, h] at h2; simp at h2
  · have ho : ops[i]? = some ops[i] := List.getElem?_eq_getElem h1
    rw [ho] at h3
    simp only [Option.map_some, Option.getD_some] at h3
    rw [← Array.all_toList, List.all_eq_true] at h3
    refine ⟨_, ho, fun e he => ?_⟩
    have h4 := h3 e (mem_aft.1 he).1
    rw [hb _ (List.getElem_mem h1) e he] at h4
    simp only [Bool.not_true, Bool.false_or] at h4
    exact listedB.1 h4
theorem ready_nil {L : Array Bool} (h : Region.ready .any ops.toArray L = []) (hs : L.size = ops.length) (hlt : ∀ (i : Nat) (o : Oper), ops[i]? = some o → ∀ e ∈ aft o, e.on < i) : ∀ i, i < ops.length → L[i]? = some true := by
  intro i
  induction i using Nat.strongRecOn with
  | _ i ih =>
    intro hi
    by_cases hL : L[i]? = some true
    · exact hL
    · exfalso
      have : i ∈ Region.ready .any ops.toArray L := by
        simp only [Region.ready, List.mem_filter, List.mem_range, Bool.and_eq_true, Bool.not_eq_true', List.size_toArray, List.getElem?_toArray]
        refine ⟨hi, ?_, ?_⟩
        · rw [Array.getD_eq_getD_getElem?]
          have : i < L.size := by omega
          rw [Array.getElem?_eq_getElem this] at hL ⊢
          cases hb : L[i] <;> simp_all
        · have ho : ops[i]? = some ops[i] := List.getElem?_eq_getElem hi
          rw [ho]
          simp only [Option.map_some, Option.getD_some]
          rw [← Array.all_toList, List.all_eq_true]
          intro e he
          cases hbd : Region.binds .any e with
          | false => simp
          | true =>
            have h1 := hlt i _ ho e (mem_aft.2 ⟨he, hbd⟩)
            rw [listedB.2 (ih e.on h1 (by omega))]
            simp
      rw [h] at this; cases this
theorem draw_all {Q : Exit → Act → World → Prop} {all : Done} (hall : all.map (·.1) = ops) (hok : ∀ i o v, all[i]? = some (o, v) → StepOk P w0 S0 n ops F0 Av eff all i o v) (hslots : slotsOk F0 ops [] = true) (hdst : ops.all (fun o => o.dst.all fun d => Nat.blt d n) = true) (hchain : chainOk ops eff = true) (heff : eff.all (fun e => Nat.blt e ops.length) = true)
    (hfin : ∀ a w, Agr n (allF F0 all) a → St w0 S0 (Av eff.length) w → Q .normal a w) :
    ∀ (fuel : Nat) (L : Array Bool) (a : Act) (w : World), ((List.range ops.length).countP fun i => !L.getD i false) ≤ fuel → Mid w0 S0 n ops F0 Av eff all L a w → wpAny P .any ops.toArray Q fuel L a w := by
  have hall' : ∀ (i : Nat) (o : Oper), ops[i]? = some o → ∃ v, all[i]? = some (o, v) := by
    intro i o h
    rw [← hall, List.getElem?_map] at h
    cases ha : all[i]? with
    | none => rw [ha] at h; cases h
    | some x => rw [ha] at h; simp at h; exact ⟨x.2, by rw [← h]⟩
  have hlt : ∀ (i : Nat) (o : Oper), ops[i]? = some o → ∀ e ∈ aft o, e.on < i ∧ Region.binds .any e = true := by
    intro i o h
    obtain ⟨v, hv⟩ := hall' i o h
    exact edgesOk_lt (hok i o v hv).1
  have hb : ∀ o ∈ ops, ∀ e ∈ aft o, Region.binds .any e = true := by
    intro o ho e he
    obtain ⟨i, hi⟩ := List.getElem?_of_mem ho
    exact (hlt i o hi e he).2
  have done : ∀ L a w, Mid w0 S0 n ops F0 Av eff all L a w → Region.ready .any ops.toArray L = [] → Q .normal a w := by
    intro L a w hm hr
    have hl := ready_nil hr hm.size (fun i o h e he => (hlt i o h e he).1)
    obtain ⟨m, h1, h2, h3⟩ := hm.st
    have hm' : m = eff.length := by
      by_cases he : m = eff.length
      · exact he
      · exfalso
        have h4 : m < eff.length := by omega
        have h5 := h1 m _ (List.getElem?_eq_getElem h4)
        rw [List.all_eq_true] at heff
        have h6 := heff _ (List.getElem_mem h4)
        have h7 := h5.1 (hl _ (by simpa using h6))
        omega
    subst hm'
    refine hfin a w ⟨hm.base.defers, hm.base.size, fun t u ht => ?_⟩ h3
    rcases allF_get ht with h | ⟨i, o, ha, hd⟩
    · exact hm.base.get t u h
    · have hi : i < ops.length := by have := (List.getElem?_eq_some_iff.1 ha).1; rw [← hall]; simpa using this
      exact hm.told i o u t (hl i hi) ha hd
  intro fuel
  induction fuel with
  | zero =>
    intro L a w hc hm
    have hr : Region.ready .any ops.toArray L = [] := by
      rw [List.eq_nil_iff_forall_not_mem]
      intro i hi
      obtain ⟨h1, h2, _⟩ := mem_ready hi hb
      have : (List.range ops.length).countP (fun i => !L.getD i false) = 0 := by omega
      rw [List.countP_eq_zero] at this
      have h3 := this i (List.mem_range.2 h1)
      simp only [Bool.not_eq_true', Bool.not_eq_false] at h3
      exact h2 (listedB.1 h3)
    exact ⟨hr, done L a w hm hr⟩
  | succ fuel ih =>
    intro L a w hc hm
    refine ⟨done L a w hm, fun i hi => ?_⟩
    obtain ⟨hilt, hnot, o, ho, hpre⟩ := mem_ready hi hb
    obtain ⟨v, hv⟩ := hall' i o ho
    obtain ⟨hedge, hstep⟩ := hok i o v hv
    have hiL : i < L.size := by rw [hm.size]; exact hilt
    let L' := L.setIfInBounds i true
    have hL' : ∀ j, L'[j]? = if i = j then some true else L[j]? := by
      intro j
      show (L.setIfInBounds i true)[j]? = _
      rw [Array.getElem?_setIfInBounds]
      by_cases e : i = j
      · simp [e]; omega
      · simp [e]
    have hcnt : ((List.range ops.length).countP fun j => !L'.getD j false) ≤ fuel := by
      have h1 : ((List.range ops.length).countP fun j => !L'.getD j false) < ((List.range ops.length).countP fun j => !L.getD j false) := by
        have hsplit : List.range ops.length = List.range i ++ i :: List.range' (i + 1) (ops.length - (i + 1)) := by
          rw [List.range_eq_range', List.range_eq_range', ← List.range'_succ]
          rw [show ops.length - (i + 1) + 1 = ops.length - i from by omega]
          have := List.range'_append (s := 0) (m := i) (n := ops.length - i) (step := 1)
          simp at this
          rw [this]
          congr 1; omega
        rw [hsplit]
        simp only [List.countP_append, List.countP_cons]
        have e1 : ∀ l : List Nat, i ∉ l → l.countP (fun j => !L'.getD j false) = l.countP (fun j => !L.getD j false) := by
          intro l hl
          apply List.countP_congr
          intro j hj
          have hne : i ≠ j := fun e => hl (e ▸ hj)
          simp only [Array.getD_eq_getD_getElem?, hL' j, hne, ↓reduceIte]
        rw [e1 _ (by simp), e1 _ (by simp; omega)]
        have h2 : (!L'.getD i false) = false := by simp [Array.getD_eq_getD_getElem?, hL' i]
        have h3 : (!L.getD i false) = true := by
          cases hb : L.getD i false with
          | false => rfl
          | true => exact absurd (listedB.1 hb) hnot
        simp only [h2, h3, Bool.false_eq_true, ↓reduceIte]
        omega
      omega
    -- what the frame knows of the operations ahead
    have hfr : Agr n (preF F0 all (aft o)) a := ⟨hm.base.defers, hm.base.size, fun t u ht => by
      rcases preF_get ht with h | ⟨e, he, o', d, ha, hd, rfl⟩
      · exact hm.base.get t u h
      · exact hm.told e.on o' u d (hpre e he) ha hd⟩
    have hdown' : ∀ (j : Nat) (o' : Oper), L'[j]? = some true → ops[j]? = some o' → ∀ e ∈ aft o', L'[e.on]? = some true := by
      intro j o' hj ho' e he
      rw [hL'] at hj ⊢
      split
      · rfl
      · by_cases e1 : i = j
        · subst e1; rw [ho] at ho'; cases ho'; exact hpre e he
        · rw [if_neg e1] at hj; exact hm.down j o' hj ho' e he
    have hput : ∀ u, v = u → (Agr n F0 (a.put o.dst u) ∧ ∀ (j : Nat) (o' : Oper) (v' : Value) (d : Nat), L'[j]? = some true → all[j]? = some (o', v') → o'.dst = some d → (a.put o.dst u).tmps[d]? = some v') := by
      intro u hu
      subst hu
      obtain ⟨hs1, hs2⟩ := slotsOk_get hslots
      cases hd : o.dst with
      | none =>
        refine ⟨hm.base, fun j o' v' d hj ha hd' => ?_⟩
        rw [hL'] at hj
        by_cases e1 : i = j
        · subst e1; rw [hv] at ha; cases ha; rw [hd] at hd'; cases hd'
        · rw [if_neg e1] at hj; exact hm.told j o' v' d hj ha hd'
      | some d0 =>
        have hd0 : d0 < n := by
          rw [List.all_eq_true] at hdst
          have := hdst o (List.mem_of_getElem? ho)
          rw [hd] at this; simpa using this
        refine ⟨⟨hm.base.defers, by simp [Act.put, hm.base.size], fun t u' ht => ?_⟩, fun j o' v' d hj ha hd' => ?_⟩
        · have hne : d0 ≠ t := fun e => by subst e; rw [(hs1 i o d0 ho hd).2] at ht; cases ht
          simp only [Act.put, Array.getElem?_setIfInBounds, hne, ↓reduceIte]
          exact hm.base.get t u' ht
        · rw [hL'] at hj
          have hoj : ops[j]? = some o' := by rw [← hall, List.getElem?_map, ha]; rfl
          by_cases e1 : i = j
          · subst e1
            rw [hv] at ha; cases ha
            rw [hd] at hd'; cases hd'
            simp [Act.put, hm.base.size, hd0]
          · rw [if_neg e1] at hj
            have hne : d0 ≠ d := fun e => e1 (by subst e; exact hs2 i j o o' d0 ho hoj hd hd')
            simp only [Act.put, Array.getElem?_setIfInBounds, hne, ↓reduceIte]
            exact hm.told j o' v' d hj ha hd'
    have hwant : ∀ b, wants all o.guard = some b → Region.wanted o (yielded ops.toArray a.tmps) = b := by
      intro b hw
      cases hg : o.guard with
      | none => rw [hg] at hw; simp [wants] at hw; simp [Region.wanted, hg, hw]
      | some g =>
        obtain ⟨j, c⟩ := g
        rw [hg] at hw
        have hgj : ∃ e ∈ aft o, e.on = j := by
          simp only [edgesOk, hg, Option.all_some, Bool.and_eq_true, List.any_eq_true, beq_iff_eq] at hedge
          exact hedge.1
        obtain ⟨e, he, rfl⟩ := hgj
        simp only [wants] at hw
        cases ha : all[e.on]? with
        | none => rw [ha] at hw; cases hw
        | some x =>
          obtain ⟨o', v'⟩ := x
          rw [ha] at hw
          cases v' with
          | bool c' =>
            simp only [] at hw
            cases hd : o'.dst with
            | none => simp [hd] at hw
            | some d =>
              simp [hd] at hw
              have h1 := hm.told e.on o' (.bool c') d (hpre e he) ha hd
              have hoj : ops[e.on]? = some o' := by rw [← hall, List.getElem?_map, ha]; rfl
              simp [Region.wanted, hg, yielded, hoj, hd, h1, hw]
          | _ =>
            simp only [] at hw
            cases hd : o'.dst with
            | none => simp [hd] at hw
            | some d =>
              simp [hd] at hw
              have h1 := hm.told e.on o' _ d (hpre e he) ha hd
              have hoj : ops[e.on]? = some o' := by rw [← hall, List.getElem?_map, ha]; rfl
              simp [Region.wanted, hg, yielded, hoj, hd, h1, ← hw]
    obtain ⟨m, hm1, hm2, hm3⟩ := hm.st
    have quietSt : eff.contains i = false → (∀ w', St w0 S0 (Av m) w' → ∃ m, (∀ j e, eff[j]? = some e → (L'[e]? = some true ↔ j < m)) ∧ m ≤ eff.length ∧ St w0 S0 (Av m) w') := by
      intro hne w' hs'
      refine ⟨m, fun j e he => ?_, hm2, hs'⟩
      have hie : i ≠ e := fun h => by
        subst h
        have : eff.contains i = true := by simpa using List.mem_of_getElem? he
        rw [this] at hne; cases hne
      rw [hL', if_neg hie]; exact hm1 j e he
    have hopsA : ops.toArray[i]? = some o := by simpa using ho
    unfold wpOp
    rw [hopsA]
    simp only []
    rcases hstep with ⟨hw, hne, lo, hi', hlo, hhi, hev⟩ | ⟨hw, hne, hvu⟩ | ⟨hw, j, hj, hev⟩
    · rw [if_pos (hwant true hw)]
      have hml : lo ≤ m := by
        simp only [Bool.or_eq_true, beq_iff_eq] at hlo
        rcases hlo with h | h
        · omega
        · cases he : eff[lo - 1]? with
          | none => rw [he] at h; cases h
          | some e =>
            rw [he] at h
            have := ahead_in (L := fun x => L[x]? = some true) (fun x o' hx ho' => hm.down x o' hx ho') ops.length e i h (fun o' ho' => by rw [ho] at ho'; cases ho'; exact hpre)
            have := (hm1 _ _ he).1 this
            omega
      have hmh : m ≤ hi' := by
        simp only [Bool.or_eq_true, beq_iff_eq] at hhi
        rcases hhi with h | h
        · omega
        · cases he : eff[hi']? with
          | none => rw [he] at h; cases h
          | some e =>
            rw [he] at h
            by_cases hlt' : hi' < m
            · exfalso
              have hl := (hm1 _ _ he).2 hlt'
              exact hnot (ahead_in (L := fun x => L[x]? = some true) (fun x o' hx ho' => hm.down x o' hx ho') ops.length i e h (fun o' ho' => hm.down e o' hl ho'))
            · omega
      refine .inl ((hev m hml hmh).go _ _ a w hfr hm3 fun w' hs' => ih L' _ w' hcnt ⟨by simp [L', hm.size], hdown', (hput v rfl).1, (hput v rfl).2, quietSt hne w' hs'⟩)
    · rw [if_neg (by rw [hwant false hw]; simp)]
      exact ih L' _ w hcnt ⟨by simp [L', hm.size], hdown', (hput undef hvu).1, (hput undef hvu).2, quietSt hne w hm3⟩
    · rw [if_pos (hwant true hw)]
      have hmj : m = j := by
        have h1 : ¬ j < m := fun h => hnot ((hm1 j i hj).2 h)
        by_cases h2 : m = j
        · exact h2
        · exfalso
          have hj0 : 0 < j := by omega
          have hjl : j < eff.length := (List.getElem?_eq_some_iff.1 hj).1
          have hp : eff[j - 1]? = some eff[j - 1] := List.getElem?_eq_getElem (by omega)
          have hc' := (chainOk_get hchain (j - 1) _ i hp (by rw [show j - 1 + 1 = j from by omega]; exact hj)).1
          have := ahead_in (L := fun x => L[x]? = some true) (fun x o' hx ho' => hm.down x o' hx ho') ops.length _ i hc' (fun o' ho' => by rw [ho] at ho'; cases ho'; exact hpre)
          have := (hm1 _ _ hp).1 this
          omega
      subst hmj
      refine .inl (hev.go _ _ a w hfr hm3 fun w' hs' => ih L' _ w' hcnt ⟨by simp [L', hm.size], hdown', (hput v rfl).1, (hput v rfl).2, m + 1, fun j' e he => ?_, by have := (List.getElem?_eq_some_iff.1 hj).1; omega, hs'⟩)
      rw [hL']
      by_cases hie : i = e
      · subst hie
        have := chainOk_inj hchain _ _ _ hj he
        subst this; simp
      · rw [if_neg hie, hm1 j' e he]
        constructor
        · intro h; omega
        · intro h
          by_cases h' : j' = m
          · subst h'; rw [hj] at he; cases he; exact absurd rfl hie
          · omega
theorem allF_of {all : Done} (hs : slotsOk F0 ops [] = true) (hall : all.map (·.1) = ops) {t : Nat} {u : Value} (h : F0.get t = some u ∨ ∃ (i : Nat) (o : Oper), all[i]? = some (o, u) ∧ o.dst = some t) : (allF F0 all).get t = some u := by
  subst hall
  have key : ∀ (all : Done) (seen : List Nat), slotsOk F0 (all.map (·.1)) seen = true → (F0.get t = some u ∨ ∃ (i : Nat) (o : Oper), all[i]? = some (o, u) ∧ o.dst = some t) → (allF F0 all).get t = some u := by
    intro all
    induction all with
    | nil => intro _ _ h; rcases h with h | ⟨i, o, h, _⟩; exact h; simp at h
    | cons x r ih =>
      intro seen hs h
      obtain ⟨o, v⟩ := x
      have hsl := hs
      simp only [List.map_cons, slotsOk] at hs
      simp only [allF, Done.frO]
      cases hd : o.dst with
      | none =>
        rw [hd] at hs
        refine ih seen hs (h.imp id ?_)
        rintro ⟨i, o', h1, h2⟩
        cases i with
        | zero => simp at h1; obtain ⟨rfl, rfl⟩ := h1; rw [hd] at h2; cases h2
        | succ i => exact ⟨i, o', by simpa using h1, h2⟩
      | some d =>
        rw [hd] at hs
        simp only [Bool.and_eq_true, Bool.not_eq_true', Option.isNone_iff_eq_none] at hs
        simp only [List.cons_append, List.nil_append, Fr.get]
        by_cases e : d = t
        · subst e
          simp only [Nat.beq_refl, cond_true]
          rcases h with h | ⟨i, o', h1, h2⟩
          · rw [hs.1.2] at h; cases h
          · cases i with
            | zero => simp at h1; rw [h1.2]
            | succ i =>
              exfalso
              have := (slotsOk_get hsl).2 0 (i + 1) o o' d (by simp) (by simpa using ⟨_, h1⟩) hd h2
              cases this
        · rw [beqF e]
          refine ih (d :: seen) hs.2 (h.imp id ?_)
          rintro ⟨i, o', h1, h2⟩
          cases i with
          | zero => simp at h1; obtain ⟨rfl, rfl⟩ := h1; rw [hd] at h2; exact absurd (Option.some.inj h2) e
          | succ i => exact ⟨i, o', by simpa using h1, h2⟩
  exact key all [] hs h
theorem allF_rev {all : Done} (hs : slotsOk F0 ops [] = true) (hall : all.reverse.map (·.1) = ops) {t : Nat} {u : Value} (h : (allF F0 all).get t = some u) : (allF F0 all.reverse).get t = some u := by
  refine allF_of hs hall ?_
  refine (allF_get h).imp id ?_
  rintro ⟨i, o, h1, h2⟩
  have hm : (o, u) ∈ all.reverse := by simpa using List.mem_of_getElem? h1
  obtain ⟨k, hk⟩ := List.getElem?_of_mem hm
  exact ⟨k, o, hk, h2⟩
theorem rep_false {k : Nat} (i : Nat) : ¬ (Array.replicate k false)[i]? = some true := by
  rw [Array.getElem?_replicate]; split <;> simp
theorem WC.draw {id : Nat} {Q : Exit → Act → World → Prop} {F : Fr} {A : List HP} {all : Done} (F0 : Fr) (Av : Nat → List HP) (eff : List Nat) (hmix : P.follows .mixedOrders = true) (hsub : Sub F0 F) (hA : Av 0 = A) (hslots : slotsOk F0 ops [] = true) (hdst : ops.all (fun o => o.dst.all fun d => Nat.blt d n) = true) (hchain : chainOk ops eff = true) (heff : eff.all (fun e => Nat.blt e ops.length) = true)
    (hedge : edgesAll 0 ops = true)
    (hd : Draws P w0 S0 n ops F0 Av eff 0 [] ops all) (h : WE w0 S0 n Q .normal (allF F0 all) (Av eff.length)) : WC P w0 S0 n (.region id ops.toArray true) Q F A := by
  subst hA
  refine ⟨fun a w ha hs => wp_region_any hmix ?_⟩
  obtain ⟨more, h1, h2, h3⟩ := hd.ok rfl hedge
  simp only [List.reverse_nil, List.nil_append] at h1
  subst h1
  refine draw_all h2 (fun i o v hi => by simpa using h3 i o v hi) hslots hdst hchain heff (fun a w ha hs => h.go a w ⟨ha.defers, ha.size, fun t u ht => ha.get t u (allF_rev hslots h2 ht)⟩ hs) _ _ _ _ ?_ ⟨by simp, ?_, ha.sub hsub, ?_, 0, ?_, Nat.zero_le _, hs.drew _⟩
  · exact Nat.le_trans (List.countP_le_length ..) (by simp)
  · intro i o hi; exact absurd hi (rep_false i)
  · intro i o v d hi; exact absurd hi (rep_false i)
  · intro j e he; simp [rep_false e]
end
end Go.BK
namespace Go.BK
open Go.RowKit
/-- The entries of a frame whose slots aren't among these, each slot once. -/
inductive Restr (ds : List Nat) : List Nat → Fr → Fr → Prop
  | nil {seen : List Nat} : Restr ds seen [] []
  | keep {seen : List Nat} {t : Nat} {v : Value} {r r' : Fr} : ds.contains t = false → seen.contains t = false → Restr ds (t :: seen) r r' → Restr ds seen ((t, v) :: r) ((t, v) :: r')
  | drop {seen : List Nat} {t : Nat} {v : Value} {r r' : Fr} : (ds.contains t || seen.contains t) = true → Restr ds seen r r' → Restr ds seen ((t, v) :: r) r'
theorem Restr.get {ds seen : List Nat} {F F' : Fr} (h : Restr ds seen F F') : ∀ t v, seen.contains t = false → F'.get t = some v → F.get t = some v := by
  induction h with
  | nil => intro t v _ h; exact h
  | @keep seen s u r r' _ h2 _ ih =>
    intro t v hs hv
    simp only [Fr.get] at hv ⊢
    by_cases e : s = t
    · subst e; simpa using hv
    · rw [beqF e] at hv ⊢
      exact ih t v (by simp at hs ⊢; exact ⟨fun h => e h.symm, hs⟩) hv
  | @drop seen s u r r' h1 hr ih =>
    intro t v hs hv
    have h2 := ih t v hs hv
    simp only [Fr.get]
    by_cases e : s = t
    · subst e
      exfalso
      have hns : ds.contains s = true := by
        cases hd : ds.contains s with
        | true => rfl
        | false => rw [hd, hs] at h1; simp at h1
      have key : ∀ {seen : List Nat} {F F' : Fr}, Restr ds seen F F' → F'.get s = none := by
        intro seen F F' h
        induction h with
        | nil => rfl
        | @keep _ t' _ _ _ h9 _ _ ih =>
          simp only [Fr.get]
          have : t' ≠ s := fun e => by subst e; exact Bool.false_ne_true (h9.symm.trans hns)
          rw [beqF this]; exact ih
        | drop _ _ ih => exact ih
      rw [key hr] at hv; cases hv
    · rw [beqF e]; exact h2
def dsts (ops : List Oper) : List Nat := ops.filterMap (·.dst)
def avL (l : List (List HP)) (m : Nat) : List HP := l.getD m []
section
variable {P : Program} {w0 : World} {S0 : BSet} {n : Nat} {ops : List Oper} {F F0 : Fr} {A : List HP} {Q : Exit → Act → World → Prop}
theorem Sub.refl' {F : Fr} {seen : List Nat} {ds : List Nat} {G : Fr} (h : Restr ds seen G F) : ∀ F2, (∀ t v, F.get t = some v → F2.get t = some v) → Sub F F2 := by
  induction h with
  | nil => intro _ _; trivial
  | @keep seen t v r r' h1 h2 hr ih =>
    intro F2 h
    refine ⟨h t v (by simp [Fr.get]), ih F2 fun s u hs => h s u ?_⟩
    simp only [Fr.get]
    by_cases e : t = s
    · subst e
      exfalso
      have key : ∀ {seen : List Nat} {G F : Fr}, Restr ds seen G F → seen.contains t = true → F.get t = none := by
        intro seen G F h
        induction h with
        | nil => intro _; rfl
        | @keep _ t' _ _ _ _ h9 _ ih =>
          intro hs
          simp only [Fr.get]
          have : t' ≠ t := fun e => by subst e; exact Bool.false_ne_true (h9.symm.trans hs)
          rw [beqF this]; exact ih (by simp at hs ⊢; exact .inr hs)
        | drop _ _ ih => exact ih
      rw [key hr (by simp)] at hs; cases hs
    · rw [beqF e]; exact hs
  | drop _ _ ih => exact ih
/-- A region that only reads. -/
theorem WC.drawQ {id : Nat} {all : Done} (hmix : P.follows .mixedOrders = true) (hr : Restr (dsts ops) [] F F0) (hslots : slotsOk F0 ops [] = true) (hdst : ops.all (fun o => o.dst.all fun d => Nat.blt d n) = true) (hedge : edgesAll 0 ops = true)
    (hd : Draws P w0 S0 n ops F0 (fun _ => A) [] 0 [] ops all) (h : WE w0 S0 n Q .normal (allF F0 all) A) : WC P w0 S0 n (.region id ops.toArray true) Q F A :=
  .draw F0 (fun _ => A) [] hmix (Sub.refl' hr F fun t v h => hr.get t v rfl h) rfl hslots hdst rfl rfl hedge hd h
/-- A region with steps that turn memory, one behind the other. -/
theorem WC.drawE {id : Nat} {all : Done} (Al : List (List HP)) (eff : List Nat) (hmix : P.follows .mixedOrders = true) (hr : Restr (dsts ops) [] F F0) (hA : avL Al 0 = A) (hslots : slotsOk F0 ops [] = true) (hdst : ops.all (fun o => o.dst.all fun d => Nat.blt d n) = true)
    (hchain : chainOk ops eff = true) (heff : eff.all (fun e => Nat.blt e ops.length) = true) (hedge : edgesAll 0 ops = true)
    (hd : Draws P w0 S0 n ops F0 (avL Al) eff 0 [] ops all) (h : WE w0 S0 n Q .normal (allF F0 all) (avL Al eff.length)) : WC P w0 S0 n (.region id ops.toArray true) Q F A :=
  .draw F0 (avL Al) eff hmix (Sub.refl' hr F fun t v h => hr.get t v rfl h) hA hslots hdst hchain heff hedge hd h
theorem WE.frame {e : Exit} {F' : Fr} (s : F = F') (h : WE w0 S0 n Q e F' A) : WE w0 S0 n Q e F A := by subst s; exact h
/-- The frame behind a region, written out. -/
inductive Writ : Fr → Done → Fr → Prop
  | nil {F0 : Fr} : Writ F0 [] F0
  | some {F0 F' : Fr} {d : Nat} {op : Op} {T : TypeId} {pos : String} {af : Array Edge} {g : Option (Nat × Bool)} {v : Value} {r : Done} : Writ F0 r F' → Writ F0 ((⟨some d, op, T, pos, af, g⟩, v) :: r) ((d, v) :: F')
  | none {F0 F' : Fr} {op : Op} {T : TypeId} {pos : String} {af : Array Edge} {g : Option (Nat × Bool)} {v : Value} {r : Done} : Writ F0 r F' → Writ F0 ((⟨none, op, T, pos, af, g⟩, v) :: r) F'
theorem Writ.eq {F0 F' : Fr} {all : Done} (h : Writ F0 all F') : allF F0 all = F' := by
  induction h with
  | nil => rfl
  | some _ ih => simp [allF, Done.frO, ih]
  | none _ ih => simp [allF, Done.frO, ih]
theorem WE.writ {e : Exit} {all : Done} {F' : Fr} (s : Writ F0 all F') (h : WE w0 S0 n Q e F' A) : WE w0 S0 n Q e (allF F0 all) A := by rw [s.eq]; exact h
variable {done all : Done} {o : Oper} {v : Value} {rest : List Oper} {eff : List Nat} {Av : Nat → List HP}
theorem Draws.q0 {i : Nat} (hw : wantR done i o.guard = some true) (h : EvW P w0 S0 n (preR F0 done i (aft o)) A o v) (k : Draws P w0 S0 n ops F0 (fun _ => A) [] (i + 1) ((o, v) :: done) rest all) : Draws P w0 S0 n ops F0 (fun _ => A) [] i done (o :: rest) all :=
  .quiet v 0 0 hw rfl (fun _ _ _ => h) k
theorem Draws.at {i : Nat} (m : Nat) (hw : wantR done i o.guard = some true) (hr : rangeOk ops eff i m m = true)
    (h : EvW P w0 S0 n (preR F0 done i (aft o)) (Av m) o v) (k : Draws P w0 S0 n ops F0 Av eff (i + 1) ((o, v) :: done) rest all) : Draws P w0 S0 n ops F0 Av eff i done (o :: rest) all :=
  .quiet v m m hw hr (fun m' h1 h2 => by have : m' = m := by omega
                                         subst this; exact h) k
theorem Draws.two {i : Nat} (m : Nat) (hw : wantR done i o.guard = some true) (hr : rangeOk ops eff i m (m + 1) = true)
    (h : EvW P w0 S0 n (preR F0 done i (aft o)) (Av m) o v) (h' : EvW P w0 S0 n (preR F0 done i (aft o)) (Av (m + 1)) o v) (k : Draws P w0 S0 n ops F0 Av eff (i + 1) ((o, v) :: done) rest all) : Draws P w0 S0 n ops F0 Av eff i done (o :: rest) all :=
  .quiet v m (m + 1) hw hr (fun m' h1 h2 => by
    rcases (by omega : m' = m ∨ m' = m + 1) with e | e
    · subst e; exact h
    · subst e; exact h') k
end
/-- A struct's cells, field by field. -/
inductive Fills (pl : Nat → Option (Nat × Nat)) : List Value → List (Nat × Value) → List Value → Prop
  | nil {c : List Value} : Fills pl c [] c
  | cons {c c' out cs : List Value} {i off sz : Nat} {v : Value} {r : List (Nat × Value)} : pl i = some (off, sz) → v.cells = cs.toArray → cs.length = sz → SetMany c off cs c' → Fills pl c' r out → Fills pl c ((i, v) :: r) out
theorem Fills.fill {pl : Nat → Option (Nat × Nat)} {c out : List Value} {ps : List (Nat × Value)} (h : Fills pl c ps out) : Instr.fill pl c.toArray ps = some out.toArray := by
  induction h with
  | nil => rfl
  | @cons c c' out cs i off sz v r h1 h2 h3 h4 _ ih =>
    obtain ⟨h5, h6⟩ := h4.eq
    simp only [Instr.fill, h1, h2, List.size_toArray, h3, ne_eq, not_true_eq_false, decide_false, Bool.false_or, decide_eq_true_eq]
    rw [if_neg (by omega)]
    have hz : (cs.toArray.zipIdx.foldl (fun (a : Array Value) (x : Value × Nat) => match x with | (c, j) => a.setIfInBounds (off + j) c) c.toArray) = (over c off cs).toArray := by
      have := foldl_set cs off 0 c (by omega)
      simpa using this
    rw [hz]
    have : over c off cs = c' := h6.symm
    rw [this]; exact ih
def placesOf (pl : List (Nat × Nat)) (i : Nat) : Option (Nat × Nat) := pl[i]?
theorem runPlaces {P : Program} {w : World} (l : List Field) (h : (l.all fun f => (szB P f.type).isSome) = true) : (l.mapM fun f => do pure (f.offset, ← sizeOf f.type) : Sem _).run P w = .ok (l.map fun f => (f.offset, (szB P f.type).getD 0)) w := by
  induction l with
  | nil => rfl
  | cons f r ih =>
    simp only [List.all_cons, Bool.and_eq_true] at h
    obtain ⟨k, hk⟩ := Option.isSome_iff_exists.1 h.1
    have := ih h.2
    simp at this
    simp [List.mapM_cons, runSz hk, this, hk]
section
variable {P : Program} {w0 : World} {S0 : BSet} {n : Nat} {F : Fr} {A r : List HP} {ops : Array Oper} {Q : Exit → Act → World → Prop} {rest : List Oper} {d : Nat} {T : TypeId} {pos : String} {af : Array Edge} {x y : Operand} {v u : Value} {t ty e : TypeId} {k : IntKind} {a b : Int} {cs ys : List Value} {bl o sz len m : Nat}
  {dd : Option Tmp} {g : Option (Nat × Bool)}
theorem EvW.build {pl : List (Nat × Nat)} {z : Value} {Z out vs : List Value} {parts : List (Nat × Operand)} (hpl : structB P t = some pl) (hz : zvB P t = some z) (hzc : z.cells = Z.toArray) (hv : evs F (parts.map (·.2)) = some vs)
    (hf : Fills (placesOf pl) Z ((parts.map (·.1)).zip vs) out) : EvW P w0 S0 n F A ⟨dd, .build t parts.toArray, T, pos, af, g⟩ (.agg out.toArray) :=
  .pure fun a' w ha _ => by
    have hvals : ∀ (l : List (Nat × Operand)) (vs : List Value), evs F (l.map (·.2)) = some vs → l.map (fun p => (p.1, a'.eval p.2)) = (l.map (·.1)).zip vs := by
      intro l
      induction l with
      | nil => intro vs h; simp [evs] at h; simp [h]
      | cons p r ih =>
        intro vs h
        simp only [List.map_cons, evs] at h
        cases ht : ev F p.2 with
        | none => simp [ht] at h
        | some u =>
          cases hr : evs F (r.map (·.2)) with
          | none => simp [ht, hr] at h
          | some us => simp [ht, hr] at h; subst h; simp [ha.eval ht, ih us hr]
    have hfill := hf.fill
    rw [← hvals parts vs hv] at hfill
    unfold structB at hpl
    split at hpl
    · rename_i fs hu
      split at hpl
      · rename_i hsz
        simp only [Option.some.injEq] at hpl
        have hpm : (fs.mapM fun f => do Pure.pure (f.offset, ← sizeOf f.type) : Sem _).run P w = .ok pl.toArray w := by
          have := runPlaces (P := P) (w := w) fs.toList hsz
          rw [Array.mapM_eq_mapM_toList]
          simp at this
          simp [this, ← hpl]
        have hplf : (fun i => (pl.toArray : Array (Nat × Nat))[i]?) = placesOf pl := by
          funext i; simp [placesOf]
        simp only [execOp, Instr.build, Sem.run_bind, runZv hz, Result.andThen, hzc, run_underlying hu, hpm]
        rw [hplf]
        simp [hfill]
      · cases hpl
    · cases hpl
/-- A piece of a slice. -/
def subSl (sz lo hi : Nat) : Value → Value
  | .slice p _ cap => .slice (if cap = lo then p else p.map (·.add (lo * sz))) (hi - lo) (cap - lo)
  | v => v
theorem Sees.subRow {w : World} {S : BSet} {lo hi : Nat} (h : Sees w S (.row sz v len cs)) (h1 : lo ≤ hi) (h2 : hi ≤ len) : Sees w S (.row sz (subSl sz lo hi v) (hi - lo) ((cs.take (hi * sz)).drop (lo * sz))) := by
  refine h.mono fun R hR => ?_
  obtain ⟨hl, h⟩ := hR
  have hlen : ((cs.take (hi * sz)).drop (lo * sz)).length = (hi - lo) * sz := by
    simp only [List.length_drop, List.length_take, hl]
    rw [Nat.min_eq_left (Nat.mul_le_mul_right _ h2), Nat.sub_mul]
  refine ⟨hlen, ?_⟩
  rcases h with ⟨p, cap, h3, h4, h5⟩ | ⟨b, off, cap, c, U, fr, h3, h4, h5, h6, h7⟩
  · subst h3; subst h4
    have : hi = 0 := by omega
    subst this
    have : lo = 0 := by omega
    subst this
    exact .inl ⟨_, _, rfl, rfl, h5⟩
  · subst h3
    refine .inr ⟨b, (if cap = lo then off else off + lo * sz), cap - lo, c, U, fr, ?_, h4, h5, fun k u hk => ?_, by omega⟩
    · simp only [subSl]
      split
      · rfl
      · simp [add_at]
    · have hk1 := (List.getElem?_eq_some_iff.1 hk).1
      rw [hlen] at hk1
      rw [List.getElem?_drop, List.getElem?_take] at hk
      split at hk
      · have := h6 _ _ hk
        split
        · rename_i e
          exfalso
          have : hi - lo = 0 := by omega
          rw [this] at hk1; simp at hk1
        · rw [Nat.add_assoc]; exact this
      · cases hk
theorem runSliceL {w : World} {p : Option Addr} {cap lo hi : Nat} (hu : P.underlying t = some (.slice e)) (hz : szB P e = some sz) (h1 : lo ≤ hi) (h2 : hi ≤ cap) {ol oh : Option Value} {k1 k2 : IntKind}
    (hol : ol = some (.int k1 lo) ∨ ol = none ∧ lo = 0) (hoh : oh = some (.int k2 hi) ∨ oh = none ∧ hi = len) : (Instr.sliceAt t (.slice p len cap) ol oh none).run P w = .ok (subSl sz lo hi (.slice p len cap)) w := by
  have e1 : (Instr.sliceBound (.int k2 hi) cap .sliceAcap).run P w = .ok hi w := by
    have := runBound (P := P) (w := w) (k := k2) (i := hi) (m := cap) (code := .sliceAcap) (by omega) (by omega)
    simp only [Instr.sliceBound, asIntOf] at this ⊢
    simpa using this
  have e2 : (Instr.sliceBound (.int k1 lo) hi .sliceB).run P w = .ok lo w := by
    have := runBound (P := P) (w := w) (k := k1) (i := lo) (m := hi) (code := .sliceB) (by omega) (by omega)
    simp only [Instr.sliceBound, asIntOf] at this ⊢
    simpa using this
  rcases hol with rfl | ⟨rfl, rfl⟩ <;> rcases hoh with rfl | ⟨rfl, rfl⟩ <;> simp [Instr.sliceAt, Instr.slice, Instr.sliceBounds, run_underlying hu, e1, e2, runSz hz, subSl]
theorem own_shape {w : World} {S : BSet} (h : (HP.own e sz v len cs).sat S w) : (v = .slice none 0 0 ∧ len = 0 ∧ cs = []) ∨ ∃ b cap, v = .slice (some ⟨b, 0, none⟩) len cap ∧ len ≤ cap := by
  obtain ⟨hl, h⟩ := h
  rcases h with ⟨h1, h2, _⟩ | ⟨b, cap, sp, h1, h2, _⟩
  · subst h2; exact .inl ⟨h1, rfl, by simpa using hl⟩
  · exact .inr ⟨b, cap, h1, h2⟩
theorem EvW.sliceOwn_hi {ee : TypeId} {hi : Operand} {k2 : IntKind} (hx : ev F x = some v) (hu : P.underlying t = some (.slice e)) (hz : szB P e = some sz) (ht : Take (.own ee sz v len cs) A r) (hhi : ev F hi = some (.int k2 b)) (h0 : 0 ≤ b) (h1 : b ≤ len) :
    EvW P w0 S0 n F A ⟨dd, .slice t x none (some hi) none, T, pos, af, g⟩ (subSl sz 0 b.toNat v) :=
  .pure fun a' w ha hst => by
    obtain ⟨S, hS⟩ := hst.take ht
    obtain ⟨b, rfl⟩ := Int.eq_ofNat_of_zero_le h0
    rcases own_shape hS with ⟨h3, h4, _⟩ | ⟨b', cap, h3, h5⟩
    · subst h3; subst h4
      simp [execOp, ha.eval hx, ha.eval hhi, runSliceL (len := 0) (p := none) (w := w) (cap := 0) (lo := 0) (hi := b) (k1 := .i64) hu hz (by omega) (by omega) (.inr ⟨rfl, rfl⟩) (.inl rfl)]
    · subst h3
      simp [execOp, ha.eval hx, ha.eval hhi, runSliceL (len := len) (p := some ⟨b', 0, none⟩) (w := w) (cap := cap) (lo := 0) (hi := b) (k1 := .i64) hu hz (by omega) (by omega) (.inr ⟨rfl, rfl⟩) (.inl rfl)]
end
end Go.BK
namespace Go.BK
open Go.RowKit
/-- Where a cell of an element lies. -/
def elemP (sz : Nat) (v : Value) (i off : Nat) : Value := match v with
  | .slice (some ⟨b, o, none⟩) _ _ => ptr b (o + (i * sz + off))
  | _ => .pointer none
section
variable {P : Program} {w0 : World} {S0 : BSet} {n : Nat} {F : Fr} {A r : List HP} {ops : Array Oper} {Q : Exit → Act → World → Prop} {rest : List Oper} {d : Nat} {T : TypeId} {pos : String} {af : Array Edge} {x y : Operand} {v u q : Value} {t ty e ee : TypeId} {k : IntKind} {a b : Int} {cs ys : List Value} {bl o sz len m i off : Nat} {xs : List Int}
  {dd : Option Tmp} {g : Option (Nat × Bool)}
theorem elemP_add {s f off' : Nat} {w : World} (hs : ∃ b o c l, v = .slice (some ⟨b, o, none⟩) l c) (hf : fieldB P s f = some off') : (Instr.fieldAt s (elemP sz v i off) f).run P w = .ok (elemP sz v i (off + off')) w := by
  obtain ⟨b, o, c, l, rfl⟩ := hs
  simp only [elemP]
  rw [runFieldAt hf]
  simp [Nat.add_assoc]
theorem runIndexAt {w : World} {cap : Nat} {bl o : Nat} (hu : P.underlying t = some (.slice e)) (hz : szB P e = some sz) (h0 : 0 ≤ a) (h1 : a < len) : (Instr.indexAt t (.slice (some ⟨bl, o, none⟩) len cap) (.int k a)).run P w = .ok (elemP sz (.slice (some ⟨bl, o, none⟩) len cap) a.toNat 0) w := by
  have e1 := add_at bl o (a.toNat * sz)
  simp [Instr.indexAt, asIntOf, run_underlying hu, h0, h1, runSz hz, e1, elemP]
theorem EvW.idxRow (hx : ev F x = some v) (hy : ev F y = some (.int k a)) (hu : P.underlying t = some (.slice e)) (hz : szB P e = some sz) (hB : Sees w0 S0 (.row sz v len cs)) (h0 : 0 ≤ a) (h1 : a < len) :
    EvW P w0 S0 n F A ⟨dd, .indexAddr t x y, T, pos, af, g⟩ (elemP sz v a.toNat 0) :=
  .pure fun a' w ha _ => by
    rcases hB.row_shape with ⟨_, _, _, h4, _⟩ | ⟨b', o', cap, h3, _⟩
    · omega
    · subst h3
      simp [execOp, ha.eval hx, ha.eval hy, runIndexAt hu hz h0 h1]
theorem EvW.idxOwn (hx : ev F x = some v) (hy : ev F y = some (.int k a)) (hu : P.underlying t = some (.slice e)) (hz : szB P e = some sz) (ht : Take (.own ee sz v len cs) A r) (h0 : 0 ≤ a) (h1 : a < len) :
    EvW P w0 S0 n F A ⟨dd, .indexAddr t x y, T, pos, af, g⟩ (elemP sz v a.toNat 0) :=
  .pure fun a' w ha hst => by
    obtain ⟨S, hS⟩ := hst.take ht
    rcases own_shape hS with ⟨_, h4, _⟩ | ⟨b', cap, h3, _⟩
    · omega
    · subst h3
      simp [execOp, ha.eval hx, ha.eval hy, runIndexAt hu hz h0 h1]
theorem row_elem {R : BSet} {w : World} (h : (HP.row sz v len cs).sat R w) (hk : cs[i * sz + off]? = some q) : ∃ b o l c, v = .slice (some ⟨b, o, none⟩) l c ∧ elemP sz v i off = ptr b (o + (i * sz + off)) ∧ w.cell? ⟨b, o + (i * sz + off), none⟩ = some q := by
  obtain ⟨hl, h'⟩ := id h
  rcases h' with ⟨_, _, h1, h2, _⟩ | ⟨b', off', cap', c, U, fr, h1, _, h3, h4, _⟩
  · subst h2; simp at hl; subst hl; simp at hk
  · subst h1; exact ⟨b', off', len, cap', rfl, rfl, row_cell hk R w h⟩
theorem EvW.fldRow {s f off' : Nat} (hx : ev F x = some (elemP sz v i off)) (hf : fieldB P s f = some off') (hB : Sees w0 S0 (.row sz v len cs)) (hi : i < len) : EvW P w0 S0 n F A ⟨dd, .fieldAddr s x f, T, pos, af, g⟩ (elemP sz v i (off + off')) :=
  .pure fun a' w ha _ => by
    rcases hB.row_shape with ⟨_, _, _, h4, _⟩ | ⟨b', o', cap, h3, _⟩
    · omega
    · simp [execOp, ha.eval hx, elemP_add (w := w) ⟨b', o', cap, len, h3⟩ hf]
theorem EvW.fldOwn {s f off' : Nat} (hx : ev F x = some (elemP sz v i off)) (hf : fieldB P s f = some off') (ht : Take (.own ee sz v len cs) A r) (hi : i < len) : EvW P w0 S0 n F A ⟨dd, .fieldAddr s x f, T, pos, af, g⟩ (elemP sz v i (off + off')) :=
  .pure fun a' w ha hst => by
    obtain ⟨S, hS⟩ := hst.take ht
    rcases own_shape hS with ⟨_, h4, _⟩ | ⟨b', cap, h3, _⟩
    · omega
    · simp [execOp, ha.eval hx, elemP_add (w := w) ⟨b', 0, cap, len, h3⟩ hf]
theorem EvW.nilElemRow (hx : ev F x = some (elemP sz v i off)) (hB : Sees w0 S0 (.row sz v len cs)) (hi : i < len) : EvW P w0 S0 n F A ⟨dd, .nilCheck x, T, pos, af, g⟩ (elemP sz v i off) :=
  .pure fun a' w ha _ => by
    rcases hB.row_shape with ⟨_, _, _, h4, _⟩ | ⟨b', o', cap, h3, _⟩
    · omega
    · subst h3; simp [execOp, ha.eval hx, elemP]
theorem EvW.nilElemOwn (hx : ev F x = some (elemP sz v i off)) (ht : Take (.own ee sz v len cs) A r) (hi : i < len) : EvW P w0 S0 n F A ⟨dd, .nilCheck x, T, pos, af, g⟩ (elemP sz v i off) :=
  .pure fun a' w ha hst => by
    obtain ⟨S, hS⟩ := hst.take ht
    rcases own_shape hS with ⟨_, h4, _⟩ | ⟨b', cap, h3, _⟩
    · omega
    · subst h3; simp [execOp, ha.eval hx, elemP]
theorem EvW.ldRow (hx : ev F x = some (elemP sz v i off)) (hs : scalB P t = true) (hB : Sees w0 S0 (.row sz v len cs)) (hc : cs[i * sz + off]? = some q) : EvW P w0 S0 n F A ⟨dd, .load t x, T, pos, af, g⟩ q :=
  .pure fun a' w ha hst => by
    obtain ⟨R, hR⟩ := hB.at hst
    obtain ⟨b, o, l, c, h1, h2, h3⟩ := row_elem hR hc
    rw [h2] at hx
    simp [execOp, ha.eval hx, runLoadScal hs h3]
theorem EvW.ldOwn (hx : ev F x = some (elemP sz v i off)) (hs : scalB P t = true) (ht : Take (.own ee sz v len cs) A r) (hc : cs[i * sz + off]? = some q) : EvW P w0 S0 n F A ⟨dd, .load t x, T, pos, af, g⟩ q :=
  .pure fun a' w ha hst => by
    obtain ⟨R, hR⟩ := hst.take ht
    obtain ⟨b, o, l, c, h1, h2, h3⟩ := row_elem (own_row hR) hc
    rw [h2] at hx
    simp [execOp, ha.eval hx, runLoadScal hs h3]
theorem EvW.ldInt (hx : ev F x = some (elemP 1 v i 0)) (hs : scalB P t = true) (hB : Sees w0 S0 (.row 1 v len (xs.map i64))) (hi : i < xs.length) : EvW P w0 S0 n F A ⟨dd, .load t x, T, pos, af, g⟩ (i64 (xs.getD i 0)) :=
  .ldRow hx hs hB (by simp [hi])
theorem EvW.ldIntOwn (hx : ev F x = some (elemP 1 v i 0)) (hs : scalB P t = true) (ht : Take (.own ee 1 v len (xs.map i64)) A r) (hi : i < xs.length) : EvW P w0 S0 n F A ⟨dd, .load t x, T, pos, af, g⟩ (i64 (xs.getD i 0)) :=
  .ldOwn hx hs ht (by simp [hi])
/-- A store into an element of a slice of the call's own. -/
theorem WL.stOwn {A' : List HP} (hx : ev F x = some (elemP sz v i off)) (hy : ev F y = some u) (hv : u.cells = ys.toArray) (hz : szB P t = some ys.length) (h1 : ys.all (·.oneCell') = true) (hpos : Nat.ble 1 ys.length = true) (ht : Take (.own ee sz v len cs) A r) (hl : i * sz + off + ys.length ≤ cs.length)
    (ht' : Take (.own ee sz v len (over cs (i * sz + off) ys)) A' r) (kk : WL P w0 S0 n ops Q rest F A') : WL P w0 S0 n ops Q (⟨none, .store t x y, T, pos, af, none⟩ :: rest) F A := by
  refine .step (fun a w ha hst K hK => ?_) rfl
  obtain ⟨S, hs1, hs2, hs3⟩ := id hst
  obtain ⟨S1, S2, hu, hd, ⟨hcl, h⟩, h5⟩ := ht.star hs1
  rcases h with ⟨h3, h4, h6⟩ | ⟨b, cap, sp, h3, h4, h6, hS1, lo, hi, hh, hfr⟩
  · subst h4
    exfalso
    have := Nat.le_of_ble_eq_true hpos
    simp at hcl; subst hcl
    simp at hl; simp [hl] at this
  · subst h3
    have hle : (i * sz + off) + ys.length ≤ (cs ++ sp).length := by simp; omega
    have hx' : a.eval x = ptr b (i * sz + off) := by rw [ha.eval hx]; simp [elemP]
    have hrun : (execOp a.eval ⟨none, .store t x y, T, pos, af, none⟩).run P w = .ok .skip { w with heap := w.heap.setIfInBounds b (.cells (over (cs ++ sp) (i * sz + off) ys).toArray ee (lo, hi)) } := by
      simp [execOp, hx', ha.eval hy, runStoreAt hz hv h1 hh (by simpa using hfr) hle]
    have hov : over (cs ++ sp) (i * sz + off) ys = over cs (i * sz + off) ys ++ sp := by
      unfold over
      rw [List.take_append_of_le_length (by omega), List.drop_append_of_le_length (by omega)]
      simp
    unfold Oper.wp
    rw [hrun]
    have hA : St w0 S0 (.blk b (cs ++ sp).toArray ee :: r) w := ⟨S, ⟨S1, S2, hu, hd, ⟨hS1, lo, hi, hh, hfr⟩, h5⟩, hs2, hs3⟩
    have hupd : St w0 S0 (.blk b (over (cs ++ sp) (i * sz + off) ys).toArray ee :: r) { w with heap := w.heap.setIfInBounds b (.cells (over (cs ++ sp) (i * sz + off) ys).toArray ee (lo, hi)) } := by
      refine hA.write .head (fun lo' hi' h8 _ => ?_) (over_length hle)
      rw [hh] at h8
      injection h8 with h8
      cases h8
      rfl
    refine hK _ _ (kk.go _ _ ha (hupd.mono fun S' w' hs' => ht'.unstar (star_mono hs' (fun S'' h => ?_) fun _ h => h)))
    rw [hov] at h
    exact blk_own h (by rw [over_length hl]; exact hcl) h4 (by rw [← hov, over_length hle, h6])
theorem WL.callT {f : FuncId} {args : List Operand} {ats : Array TypeId} {vals : List Value} {A1 A2 : List HP} {R : Value → List HP → Prop}
    (hn : Nat.blt d n = true) (hargs : evs F args = some vals)
    (hspec : ∀ w S, (sepL A1).sat S w → (∀ B, Sees w0 S0 B → Sees w S B) → (∀ B r, Take B A2 r → Sees w S B) → Tri P f vals.toArray w S R) (hcall : ∀ w, (callFunc f vals.toArray).run P w = .ok (.enter f vals.toArray) w) (ht : TakeL A1 A A2)
    (kk : ∀ v A', R v A' → WL P w0 S0 n ops Q rest ((d, v) :: F) (A' ++ A2)) :
    WL P w0 S0 n ops Q (⟨some d, .call ⟨.value (.func f), args.toArray, ats⟩, T, pos, af, none⟩ :: rest) F A := .call hn hargs hcall ht hspec kk
theorem WL.callA {f : FuncId} {args : List Operand} {ats : Array TypeId} {vals : List Value} (A1 : List HP) {A2 : List HP} {R : Value → List HP → Prop}
    (hn : Nat.blt d n = true) (hargs : evs F args = some vals) (hcall : ∀ w, (callFunc f vals.toArray).run P w = .ok (.enter f vals.toArray) w) (ht : TakeL A1 A A2)
    (hspec : ∀ w S, (sepL A1).sat S w → (∀ B, Sees w0 S0 B → Sees w S B) → (∀ B r, Take B A2 r → Sees w S B) → Tri P f vals.toArray w S R)
    (kk : ∀ v A', R v A' → WL P w0 S0 n ops Q rest ((d, v) :: F) (A' ++ A2)) :
    WL P w0 S0 n ops Q (⟨some d, .call ⟨.value (.func f), args.toArray, ats⟩, T, pos, af, none⟩ :: rest) F A := .call hn hargs hcall ht hspec kk
variable {h1 h2 h3 h4 h5 : HP}
theorem WL.app0 (h : WL P w0 S0 n ops Q rest F A) : WL P w0 S0 n ops Q rest F ([] ++ A) := h
theorem WL.app1 (h : WL P w0 S0 n ops Q rest F (h1 :: A)) : WL P w0 S0 n ops Q rest F ([h1] ++ A) := h
theorem WL.app2 (h : WL P w0 S0 n ops Q rest F (h1 :: h2 :: A)) : WL P w0 S0 n ops Q rest F ([h1, h2] ++ A) := h
theorem WL.app3 (h : WL P w0 S0 n ops Q rest F (h1 :: h2 :: h3 :: A)) : WL P w0 S0 n ops Q rest F ([h1, h2, h3] ++ A) := h
theorem WL.app4 (h : WL P w0 S0 n ops Q rest F (h1 :: h2 :: h3 :: h4 :: A)) : WL P w0 S0 n ops Q rest F ([h1, h2, h3, h4] ++ A) := h
theorem St.keep {w : World} {xs : List HP} (t : TakeL xs A r) (h : St w0 S0 A w) : St w0 S0 xs w :=
  h.turn fun S hs => by
    obtain ⟨S1, S2, hu, _, h1, _⟩ := t.star hs
    exact ⟨S1, h1, .refl _ _, fun b hb => .inl ((hu b).2 (.inl hb))⟩
theorem WE.keep {ex : Exit} {xs : List HP} (t : TakeL xs A r) (h : WE w0 S0 n Q ex F xs) : WE w0 S0 n Q ex F A := h.conv fun _ hs => hs.keep t
theorem WE.bare {ex : Exit} (h : WE w0 S0 n Q ex F []) : WE w0 S0 n Q ex F A := h.conv fun _ hs => hs.keep .nil
theorem evs_map {act : Act} (ha : Agr n F act) : ∀ (l : List Operand) (vs : List Value), evs F l = some vs → l.map act.eval = vs := by
  intro l
  induction l with
  | nil => intro vs h; simpa [evs] using h
  | cons t r ih =>
    intro vs h
    simp only [evs] at h
    cases ht : ev F t with
    | none => simp [ht] at h
    | some u =>
      cases hr : evs F r with
      | none => simp [ht, hr] at h
      | some us =>
        simp [ht, hr] at h
        subst h
        simp [ha.eval ht, ih us hr]
/-- A call, told of the operation alone. -/
theorem EffW.callT {f : FuncId} {args : List Operand} {ats : Array TypeId} {vals : List Value} {A' A1 A2 A3 : List HP} {R : Value → List HP → Prop} (hargs : evs F args = some vals)
    (hspec : ∀ w S, (sepL A1).sat S w → (∀ B, Sees w0 S0 B → Sees w S B) → (∀ B r, Take B A2 r → Sees w S B) → Tri P f vals.toArray w S R) (hcall : ∀ w, (callFunc f vals.toArray).run P w = .ok (.enter f vals.toArray) w) (ht : TakeL A1 A A2)
    (hR : ∀ v' A', R v' A' → v' = v ∧ A' = A3) (hA : ∀ w, St w0 S0 (A3 ++ A2) w → St w0 S0 A' w) :
    EffW P w0 S0 n F A A' ⟨dd, .call ⟨.value (.func f), args.toArray, ats⟩, T, pos, af, g⟩ v := by
  refine ⟨fun Q K a w ha hs hK => ?_⟩
  have hvals := evs_map ha args vals hargs
  obtain ⟨S, h1, h2, h3⟩ := hs
  obtain ⟨S1, S2, hu, hdis, h4, h5⟩ := ht.star h1
  have hsp := (hspec w S1 h4 (fun B hB => hB.down h2 h3 fun b hb => (hu b).2 (.inl hb)) (fun B r tB => by
    obtain ⟨S3, S4, hu', hd', h6, h7⟩ := tB.star h5
    exact ⟨S3, h6, fun b hb hb' => hdis b hb' ((hu' b).2 (.inl hb))⟩)).go
  have hrun : (execOp a.eval ⟨dd, .call ⟨.value (.func f), args.toArray, ats⟩, T, pos, af, g⟩).run P w = .ok (.enter f vals.toArray) w := by
    simp [execOp, resolve, Act.eval, Deferred.ofValue, invoke, hvals, hcall]
  unfold Oper.wp
  rw [hrun]
  refine hsp.mono ?_
  rintro e w' ⟨v', A', rfl, hRR, S', h6, h7, h8⟩
  obtain ⟨rfl, rfl⟩ := hR v' A' hRR
  refine hK w' (hA w' ?_)
  have hext : Ext S w w' := ⟨h7.os, h7.tape, h7.output, h7.size, fun b hb hnb => h7.keep b hb fun h => hnb ((hu b).2 (.inl h))⟩
  refine ⟨fun b => S' b ∨ S2 b, sepL_append ⟨S', S2, fun _ => Iff.rfl, fun b hb hb2 => ?_, h6, (sepL A2).loc h5 fun b hb => h7.keep b ((sepL A2).bnd h5 hb) fun h => hdis b h hb⟩, h2.step hext h3, fun b hb => ?_⟩
  · rcases h8 b hb with h | h
    · exact hdis b h hb2
    · have := (sepL A2).bnd h5 hb2; omega
  · rcases hb with hb | hb
    · rcases h8 b hb with h | h
      · exact h3 b ((hu b).2 (.inl h))
      · exact .inr (Nat.le_trans h2.size h)
    · exact h3 b ((hu b).2 (.inr hb))
theorem EffW.store {A' : List HP} (hx : ev F x = some (ptr bl o)) (hy : ev F y = some v) (hv : v.cells = cs.toArray) (hz : szB P t = some cs.length) (h1 : cs.all (·.oneCell') = true) (hu : UpdC bl o cs A A') :
    EffW P w0 S0 n F A A' ⟨none, .store t x y, T, pos, af, g⟩ undef := by
  obtain ⟨l, l', U, hs, hu⟩ := hu.upd
  obtain ⟨hl, he⟩ := hs.eq
  refine ⟨fun Q K a w ha hst hK => ?_⟩
  obtain ⟨r, t1, _⟩ := hu.take
  obtain ⟨lo, hi, h2, h3⟩ := hst.blk t1
  have hrun : (execOp a.eval ⟨none, .store t x y, T, pos, af, g⟩).run P w = .ok .skip { w with heap := w.heap.setIfInBounds bl (.cells (over l o cs).toArray U (lo, hi)) } := by
    simp [execOp, ha.eval hx, ha.eval hy, runStoreAt hz hv h1 h2 (by simpa using h3) hl]
  unfold Oper.wp
  rw [hrun]
  refine hK _ (hst.write hu (fun lo' hi' h4 _ => ?_) (by rw [he]; exact over_length hl))
  rw [h2] at h4
  injection h4 with h4
  cases h4
  rw [he]; rfl
theorem notInt_sl (h : P.underlying t = some (.slice e)) : notInt P t = true := by unfold notInt; rw [h]
theorem notInt_st (h : P.underlying t = some .string) : notInt P t = true := by unfold notInt; rw [h]
/-- Alike truths. -/
theorem EvW.beqS {c : Bool} (hx : ev F x = some (.bool c)) (hy : ev F y = some (.bool c)) (hu : P.underlying t = some .bool) : EvW P w0 S0 n F A ⟨dd, .binOp .eql t x y ty, T, pos, af, g⟩ (.bool true) := by
  have := EvW.beq (P := P) (w0 := w0) (S0 := S0) (n := n) (A := A) (d := dd) (T := T) (pos := pos) (af := af) (g := g) (ty := ty) hx hy hu
  simpa using this
/-- A block is a slice of the call's own. -/
theorem WL.toOwn {l : List Value} (len sz : Nat) (ht : Take (.blk bl l.toArray e) A r) (hl : l.length = len * sz) (kk : WL P w0 S0 n ops Q rest F (.own e sz (.slice (some ⟨bl, 0, none⟩) len len) len l :: r)) : WL P w0 S0 n ops Q rest F A :=
  kk.conv fun w hs => hs.mono fun S w h => by
    refine star_mono (ht.star h) (fun S' h' => ?_) fun _ h => h
    have h2 : (HP.blk bl (l ++ []).toArray e).sat S' w := by rw [List.append_nil]; exact h'
    exact blk_own h2 hl (Nat.le_refl _) (by simpa using hl)
theorem WL.ownEq {cs' : List Value} {len' : Nat} (ht : Take (.own e sz v len cs) A r) (hl : len = len') (hc : cs = cs') (kk : WL P w0 S0 n ops Q rest F (.own e sz v len' cs' :: r)) : WL P w0 S0 n ops Q rest F A := by
  subst hc; subst hl
  exact kk.conv fun w hs => hs.mono (A' := .own e sz v len cs :: r) fun S w h => ht.star h
theorem St.below {w w' : World} (h : St w (fun _ => False) A w') : Below w.heap.size w w' := by
  obtain ⟨S, _, hx, _⟩ := h; exact hx.below
/-- A law that answers true. -/
theorem Tri.law {f : FuncId} {args : Array Value} {w : World} {R : Value → List HP → Prop} (h : Tri P f args w (fun _ => False) R) (hR : ∀ v A, R v A → v = .bool true) : Calls P f args w fun e w' => e = .returned (.bool true) ∧ Below w.heap.size w w' :=
  h.go.mono fun e w' ⟨v, A', h1, h2, h3⟩ => ⟨by rw [h1, hR v A' h2], h3.below⟩
end
end Go.BK
namespace Go.BK
open Go.RowKit Go.ChangeShapes Go.WideShapes Go.ChangeAt Go.ChangeMaps
section
variable {H : Type} {enc : TypeId × Value → H} {P : Program}
theorem trodAll_stay {W W' : World} (hl : laidOutB P = true) (hb : Below W.heap.size W W') : ∀ (ts : List TypeId) (vs : List Value) (ds : List (DataW H)) (ps : List MemPlace), (∀ t ∈ ts, P.readableRec t = true ∧ t < P.types.size) →
    DataW.TrodAll enc P W 0 (fun _ => true) true ts vs ds ps → (∀ x ∈ ps, x.block < W.heap.size) → DataW.TrodAll enc P W' 0 (fun b => decide (b < W.heap.size)) true ts vs ds ps := by
  intro ts
  induction ts with
  | nil => intro vs ds ps _ h _; cases vs <;> cases ds <;> simp_all [DataW.TrodAll]
  | cons t ts ih =>
    intro vs ds ps ht h hlt
    cases vs with
    | nil => simp [DataW.TrodAll] at h
    | cons v vs =>
      cases ds with
      | nil => simp [DataW.TrodAll] at h
      | cons d ds =>
        simp only [DataW.TrodAll] at h ⊢
        obtain ⟨p, q, h1, h2, h3⟩ := h
        subst h3
        exact ⟨p, q, Below.trod hl (ht t (List.mem_cons_self ..)).1 (ht t (List.mem_cons_self ..)).2 h1 hb (fun x hx => hlt x (List.mem_append_left _ hx)), ih vs ds q (fun t' ht' => ht t' (List.mem_cons_of_mem _ ht')) h2 (fun x hx => hlt x (List.mem_append_right _ hx)), rfl⟩
theorem trodAll_length {W : World} : ∀ (ts : List TypeId) (vs : List Value) (ds : List (DataW H)) (ps : List MemPlace), DataW.TrodAll enc P W 0 (fun _ => true) true ts vs ds ps → ds.length = ts.length := by
  intro ts
  induction ts with
  | nil => intro vs ds ps h; cases vs <;> cases ds <;> simp_all [DataW.TrodAll]
  | cons t ts ih =>
    intro vs ds ps h
    cases vs with
    | nil => simp [DataW.TrodAll] at h
    | cons v vs =>
      cases ds with
      | nil => simp [DataW.TrodAll] at h
      | cons d ds =>
        simp only [DataW.TrodAll] at h
        obtain ⟨p, q, h1, h2, h3⟩ := h
        simp [ih vs ds q h2]
/-- A law: its call answers true, and turns nothing that was there. -/
theorem law_lifted {C : Checked} {os : Os} {f : FuncId} {fn : Func} {s : ChangeSpec} {conds : List PathCond} {tb : TypeId}
    (own : ownKnob C.prog.godebug = none) (started : os.Started) (noInit : C.prog.inits.idxOf? f = none) (hfn : C.prog.funcs[f]? = some fn) (hb : fn.resultTypes = #[tb]) (hub : C.prog.underlying tb = some .bool) (hv : s.vars = [])
    (hl : laidOutB C.prog = true) (hread : (fn.params.toList.all fun t => C.prog.readableRec t && decide (t < C.prog.types.size)) = true)
    (hs : ∀ ds : List (DataW H), ds.length = fn.params.toList.length → s.fn H ds = { results := [.lit (.bool true)], args := ds })
    (witness : ∃ (w : World) (tape : Tape) (i : Input), w.os = os ∧ (w.forCall tape i).Shaped C.prog ∧ i.vars = [] ∧ Input.okWide C.prog (w.forCall tape i) .any w.heap.size f i ∧
      s.pre6 enc C.prog fn conds false (w.forCall tape i).memory i.args ∧ (({} : Assume)).holds C.prog (lone (Frame.enter C.prog f i.args .normal) [] (w.forCall tape i)))
    (contract : ∀ (W : World) (base : Nat) (args : Array Value) (ds : List (DataW H)) (p : List MemPlace),
      (∀ (j : Nat) t v, fn.params[j]? = some t → args[j]? = some v → Value.okWide C.prog W .any base t v) → DataW.TrodAll enc C.prog W 0 (fun _ => true) true fn.params.toList args.toList ds p →
      (DataW.weightsEach C.prog fn.params.toList ds).all (· ≤ reachBytes) = true → Calls C.prog f args W fun e W' => e = .returned (.bool true) ∧ Below W.heap.size W W') :
    ReturnsInHanded {} C os f .any (s.pre6 enc C.prog fn conds false) (s.post enc C.prog fn false true false false) := by
  refine returnsInHanded_of_change_sized own started noInit hfn witness ?_
  intro W base args ds gs before hval hW _ hsz _
  have hW' := hW
  obtain ⟨p, q, hA, hV, rfl, _, _⟩ := hW
  rw [hv] at hV
  obtain ⟨rfl, rfl⟩ := trodVars_none hV
  have hvt : s.plain.varTypes C.prog = [] := by simp [ChangeSpec.plain, DataSpec.varTypes, hv]
  rw [hvt] at hsz
  simp only [List.append_nil] at hsz
  refine (contract W base args ds p hval hA hsz).mono fun e W' ⟨he, hbel⟩ => ?_
  have hds : ds.length = fn.params.toList.length := trodAll_length _ _ _ _ hA
  have hlt : ∀ x ∈ p, x.block < W.heap.size := fun x hx => hW'.lt x (List.mem_append_left _ hx)
  refine ⟨_, he, ds, [], p ++ [], [], p, [], hW', ?_, ?_, ?_, hbel.frame _, fun h => by cases h⟩
  · rw [List.append_nil, hs ds hds, hb]
    simp only [Value.resultList]
    exact ⟨[], [], shut_bool hub true, rfl, rfl⟩
  · rw [List.append_nil, hs ds hds]
    exact trodAll_stay hl hbel _ _ _ _ (fun t ht => by
      have := List.all_eq_true.1 hread t ht
      simpa using this) hA hlt
  · rw [List.append_nil, hs ds hds, hv]; rfl
theorem cell_block {w : World} {a : Addr} {v : Value} (h : w.cell? a = some v) : a.spot = none ∧ ∃ c T fr, w.heap[a.block]? = some (.cells c T fr) ∧ c[a.off]? = some v := by
  unfold World.cell? at h
  split at h
  · rename_i c T fr hh
    split at h
    · cases h
    · rename_i hs
      refine ⟨by simpa using hs, c, T, fr, hh, h⟩
  · cases h
/-- Cells that read as a list are a row. -/
theorem row_of_cells {W : World} {a : Addr} {len cap sz : Nat} {cs : List Value} (hl : cs.length = len * sz) (hcap : len ≤ cap) (hsz : 0 < sz) (hc : ∀ i u, cs[i]? = some u → W.cell? (a.add i) = some u) : Sees W (fun _ => False) (.row sz (.slice (some a) len cap) len cs) := by
  by_cases h0 : len = 0
  · subst h0
    exact ⟨fun _ => False, ⟨hl, .inl ⟨_, _, rfl, rfl, fun _ h => h⟩⟩, fun _ h => h.elim⟩
  · have hlt : 0 < cs.length := by rw [hl]; exact Nat.mul_pos (by omega) hsz
    have h1 := hc 0 cs[0] (by simp [hlt])
    have ha0 : a.add 0 = a := by simp [Addr.add]
    rw [ha0] at h1
    obtain ⟨hs, c, T, fr, hh, _⟩ := cell_block h1
    obtain ⟨b, off, sp⟩ := a
    simp only at hs; subst hs
    refine ⟨fun x => x = b, ⟨hl, .inr ⟨b, off, cap, c, T, fr, rfl, fun _ => Iff.rfl, hh, fun k u hk => ?_, hcap⟩⟩, fun _ _ h => h⟩
    have h2 := hc k u hk
    rw [add_at] at h2
    obtain ⟨_, c', T', fr', hh', h3⟩ := cell_block h2
    simp only at hh' h3
    simp only at hh
    rw [hh] at hh'
    injection hh' with hh'
    injection hh' with e1 _ _
    rw [e1]; exact h3
end
end Go.BK
namespace Go.BK
open Go.RowKit
section
variable {P : Program} {w0 : World} {S0 : BSet} {n : Nat} {F : Fr} {A r : List HP} {ops : Array Oper} {Q : Exit → Act → World → Prop} {rest : List Oper} {d : Nat} {T : TypeId} {pos : String} {af : Array Edge} {x y : Operand} {v u q : Value} {t ty e ee : TypeId} {k : IntKind} {a b : Int} {cs ys : List Value} {bl o sz len m i off : Nat} {xs : List Int}
  {dd : Option Tmp} {g : Option (Nat × Bool)}
theorem EvW.remW {k2 : IntKind} (hx : ev F x = some (.int k (k2.wrap a))) (hy : ev F y = some (.int k b)) (hu : k2.signed = false) (hb : 0 < b) : EvW P w0 S0 n F A ⟨dd, .binOp .rem t x y ty, T, pos, af, g⟩ (.int k (k2.wrap a % b)) := by
  have h := EvW.rem (P := P) (w0 := w0) (S0 := S0) (n := n) (A := A) (d := dd) (T := T) (pos := pos) (af := af) (g := g) (t := t) (ty := ty) hx hy (by omega)
  have h0 : 0 ≤ k2.wrap a := by have := (wrap_bounds k2 a).1; simp only [IntKind.min, hu, Bool.false_eq_true, ↓reduceIte] at this; exact this
  rwa [Int.tmod_eq_emod_of_nonneg h0] at h
theorem EvW.remP (hx : ev F x = some (.int k a)) (hy : ev F y = some (.int k b)) (h0 : 0 ≤ a) (hb : 0 < b) : EvW P w0 S0 n F A ⟨dd, .binOp .rem t x y ty, T, pos, af, g⟩ (.int k (a % b)) := by
  have h := EvW.rem (P := P) (w0 := w0) (S0 := S0) (n := n) (A := A) (d := dd) (T := T) (pos := pos) (af := af) (g := g) (t := t) (ty := ty) hx hy (by omega)
  rwa [Int.tmod_eq_emod_of_nonneg h0] at h
theorem EvW.negN (hx : ev F x = some (.int k a)) (hw : k.min ≤ -a ∧ -a ≤ k.max) : EvW P w0 S0 n F A ⟨dd, .unOp .neg t x, T, pos, af, g⟩ (.int k (-a)) := by
  have h := EvW.neg (P := P) (w0 := w0) (S0 := S0) (n := n) (A := A) (d := dd) (T := T) (pos := pos) (af := af) (g := g) (t := t) hx
  rw [Int.zero_sub] at h
  rwa [wrap_in k hw] at h
/-- Guarded by what was itself passed over. -/
theorem WL.unwantedU {g : Nat × Bool} {go : Oper} {gd d : Nat} {op : Op} {T : TypeId} {pos : String} {af : Array Edge} (hj : ops[g.1]? = some go) (hgd : go.dst = some gd) (hv : F.get gd = some undef) (hn : Nat.blt d n = true)
    (kk : WL P w0 S0 n ops Q rest ((d, undef) :: F) A) : WL P w0 S0 n ops Q (⟨some d, op, T, pos, af, some g⟩ :: rest) F A :=
  ⟨fun a w ha hs => by
    have hy : yielded ops a.tmps g.1 = none := by simp [yielded, hj, hgd, ha.get gd _ hv, undef]
    unfold wpList
    rw [if_neg (by simp [Region.wanted, hy])]
    exact kk.go _ _ (ha.put (by simpa using hn) undef) hs⟩
end
end Go.BK
namespace Go.BK
open Go.RowKit
section
variable {P : Program} {w0 : World} {S0 : BSet} {n : Nat} {F : Fr} {A r : List HP} {ops : Array Oper} {Q : Exit → Act → World → Prop} {rest : List Oper} {d : Nat} {T : TypeId} {pos : String} {af : Array Edge} {x y : Operand} {v u q : Value} {t ty e ee : TypeId} {k : IntKind} {a b : Int} {cs ys : List Value} {bl o sz len off i j m : Nat}
  {dd : Option Tmp} {g : Option (Nat × Bool)}
theorem runStrRow {R : BSet} {w : World} {l : List UInt8} (hu : P.underlying t = some (.slice e)) (he : P.underlying e = some (.int .u8)) (hd : P.underlying ty = some .string) (h : (HP.row 1 v l.length (l.map byt)).sat R w) :
    (convert t ty v).run P w = .ok (str l) w := by
  obtain ⟨hl, h'⟩ := id h
  rcases h' with ⟨p, cap, h1, h2, _⟩ | ⟨b', off', cap', c, U, fr, h1, _, h3, h4, _⟩
  · subst h1
    have hl0 : l = [] := List.length_eq_zero_iff.1 h2
    subst hl0
    cases p with
    | none => rw [run_convert_bytes_string w t ty e none 0 cap hu he hd]; simp [Conv.bytesToString, str, Sem.run_pure]; rfl
    | some p => exact run_convert_bytes_back w t ty e p cap [] hu he hd (fun j hj => by simp at hj)
  · subst h1
    refine run_convert_bytes_back w t ty e ⟨b', off', none⟩ cap' l hu he hd (fun j hj => ?_)
    rw [add_at]
    exact row_cell (by simp [hj]) R w h
theorem EvW.strRow {l : List UInt8} (hx : ev F x = some v) (hu : P.underlying t = some (.slice e)) (he : P.underlying e = some (.int .u8)) (hd : P.underlying ty = some .string) (hB : Sees w0 S0 (.row 1 v len (l.map byt))) : EvW P w0 S0 n F A ⟨dd, .convert t ty x, T, pos, af, g⟩ (str l) :=
  .pure fun a' w ha hst => by
    obtain ⟨R, hR⟩ := hB.at hst
    have hl : l.length = len := by have := hR.1; simpa using this
    subst hl
    simp [execOp, ha.eval hx, runStrRow hu he hd hR]
theorem EvW.strOwn {l : List UInt8} (hx : ev F x = some v) (hu : P.underlying t = some (.slice e)) (he : P.underlying e = some (.int .u8)) (hd : P.underlying ty = some .string) (ht : Take (.own ee 1 v len (l.map byt)) A r) : EvW P w0 S0 n F A ⟨dd, .convert t ty x, T, pos, af, g⟩ (str l) :=
  .pure fun a' w ha hst => by
    obtain ⟨R, hR⟩ := hst.take ht
    have hR := own_row hR
    have hl : l.length = len := by have := hR.1; simpa using this
    subst hl
    simp [execOp, ha.eval hx, runStrRow hu he hd hR]
/-- []byte(s). -/
theorem WL.bytesOf {l : List UInt8} (hn : Nat.blt d n = true) (hx : ev F x = some (str l)) (hs : P.underlying t = some .string) (hu : P.underlying ty = some (.slice e)) (he : P.underlying e = some (.int .u8))
    (kk : ∀ v', WL P w0 S0 n ops Q rest ((d, v') :: F) (.own e 1 v' l.length (l.map byt) :: A)) :
    WL P w0 S0 n ops Q (⟨some d, .convert t ty x, T, pos, af, none⟩ :: rest) F A := by
  refine .step (fun act w ha hst K hK => ?_) rfl
  have hrun := run_bytes_of_string (P := P) w t ty e (ByteArray.mk l.toArray) hs hu he
  generalize hcap : grownCap w (ByteArray.mk l.toArray).size 0 e = cap at hrun
  have hge : l.length ≤ cap := by
    rw [← hcap]; simp [grownCap, Question.cut, sizeMk]
  have hrow : bytesRow (ByteArray.mk l.toArray) cap = (l.map byt ++ List.replicate (cap - l.length) (Value.int .u8 0)).toArray := by
    unfold bytesRow
    apply Array.ext'
    simp [sizeMk]
  rw [hrow] at hrun
  unfold Oper.wp
  have hex : (execOp act.eval ⟨some d, .convert t ty x, T, pos, af, none⟩).run P w = .ok (.value (.slice (some ⟨w.heap.size, 0, none⟩) l.length cap)) (w.drew.alloc (.cells (l.map byt ++ List.replicate (cap - l.length) (Value.int .u8 0)).toArray e ((l.map byt ++ List.replicate (cap - l.length) (Value.int .u8 0)).toArray.size, (l.map byt ++ List.replicate (cap - l.length) (Value.int .u8 0)).toArray.size + 1))) := by
    simp only [execOp, ha.eval hx, Sem.run_bind]
    rw [show (str l) = Value.string (ByteArray.mk l.toArray) from rfl, hrun]
    rfl
  rw [hex]
  refine hK _ _ ((kk _).go _ _ (ha.put (by simpa using hn) _) ?_)
  have hD : St w0 S0 A w.drew := hst.drew _
  have hN := hD.new (.cells (l.map byt ++ List.replicate (cap - l.length) (Value.int .u8 0)).toArray e ((l.map byt ++ List.replicate (cap - l.length) (Value.int .u8 0)).toArray.size, (l.map byt ++ List.replicate (cap - l.length) (Value.int .u8 0)).toArray.size + 1))
    (x := .blk w.drew.heap.size (l.map byt ++ List.replicate (cap - l.length) (Value.int .u8 0)).toArray e) (fun w1 h1 => ⟨fun _ => Iff.rfl, _, _, h1, fun o h2 h3 => by omega⟩)
  exact hN.mono fun S' w' hs' => star_mono hs' (fun S'' h => blk_own h (by simp) hge (by simp; omega)) fun _ h => h
/-- Elements of lists of things. -/
theorem EvW.ldMap {α : Type} {xs : List α} {f : α → Value} {z : α} (hx : ev F x = some (elemP 1 v i 0)) (hs : scalB P t = true) (hB : Sees w0 S0 (.row 1 v len (xs.map f))) (hi : i < xs.length) : EvW P w0 S0 n F A ⟨dd, .load t x, T, pos, af, g⟩ (f (xs.getD i z)) :=
  .ldRow hx hs hB (by simp [hi])
theorem EvW.ldMapOwn {α : Type} {xs : List α} {f : α → Value} {z : α} (hx : ev F x = some (elemP 1 v i 0)) (hs : scalB P t = true) (ht : Take (.own ee 1 v len (xs.map f)) A r) (hi : i < xs.length) : EvW P w0 S0 n F A ⟨dd, .load t x, T, pos, af, g⟩ (f (xs.getD i z)) :=
  .ldOwn hx hs ht (by simp [hi])
theorem EvW.ldBytOwn {xs : List UInt8} (hx : ev F x = some (elemP 1 v i 0)) (hs : scalB P t = true) (ht : Take (.own ee 1 v len (xs.map byt)) A r) (hi : i < xs.length) : EvW P w0 S0 n F A ⟨dd, .load t x, T, pos, af, g⟩ (.int .u8 (xs.getD i 0).toNat) := .ldMapOwn (f := byt) hx hs ht hi
theorem EvW.ldStr {xs : List (List UInt8)} (hx : ev F x = some (elemP 1 v i 0)) (hs : scalB P t = true) (hB : Sees w0 S0 (.row 1 v len (xs.map str))) (hi : i < xs.length) : EvW P w0 S0 n F A ⟨dd, .load t x, T, pos, af, g⟩ (str (xs.getD i [])) := .ldMap (f := str) hx hs hB hi
theorem EvW.ldStrOwn {xs : List (List UInt8)} (hx : ev F x = some (elemP 1 v i 0)) (hs : scalB P t = true) (ht : Take (.own ee 1 v len (xs.map str)) A r) (hi : i < xs.length) : EvW P w0 S0 n F A ⟨dd, .load t x, T, pos, af, g⟩ (str (xs.getD i [])) := .ldMapOwn (f := str) hx hs ht hi
theorem flat_length {α : Type} {xs : List α} {f : α → List Value} (hf : ∀ a, (f a).length = sz) : (xs.flatMap f).length = xs.length * sz := by
  induction xs with
  | nil => simp
  | cons x r ih => simp [hf, ih, Nat.add_mul, Nat.add_comm]
theorem flat_get {α : Type} {xs : List α} {f : α → List Value} {z : α} (hf : ∀ a, (f a).length = sz) : ∀ {i : Nat}, i < xs.length → ((xs.flatMap f).drop (i * sz)).take sz = f (xs.getD i z) := by
  induction xs with
  | nil => intro i hi; simp at hi
  | cons x r ih =>
    intro i hi
    cases i with
    | zero => simp [hf]
    | succ i =>
      simp only [List.length_cons] at hi
      have := ih (i := i) (by omega)
      simp only [List.flatMap_cons, Nat.add_mul, Nat.one_mul, List.getD_cons_succ]
      rw [← this, Nat.add_comm, ← List.drop_drop, List.drop_left' (hf x)]
theorem runLoadAgg' {w : World} {o kk : Nat} {c : Array Value} {fr : Nat × Nat} (h : aggB P t = true) (hk : szB P t = some kk) (hb : w.heap[bl]? = some (.cells c T fr)) (hs : o + kk ≤ c.size) : (Instr.loadAt t (ptr bl o)).run P w = .ok (.agg (c.extract o (o + kk))) w := by
  unfold Instr.loadAt
  simp only [Instr.sureAddr, loadVar, Sem.run_bind, Sem.run_pure, Result.andThen, runAgg h]
  have := runLoadCells (P := P) (w := w) (b := bl) c o kk 0 #[] (fun j hj _ => by simp [World.cell?, hb]) (by omega)
  simp [runSz hk, loadCells, this, Result.andThen]
theorem runLoadAggAt {R : BSet} {w : World} {out : List Value} (hs : aggB P t = true) (hm : szB P t = some m) (hpos : 0 < m) (h : (HP.row sz v len cs).sat R w) (hout : (cs.drop (i * sz + off)).take m = out) (hl : i * sz + off + m ≤ cs.length) :
    (Instr.loadAt t (elemP sz v i off)).run P w = .ok (.agg out.toArray) w := by
  obtain ⟨hcl, h'⟩ := id h
  rcases h' with ⟨_, _, h1, h2, _⟩ | ⟨b', off', cap', c, U, fr, h1, _, h3, h4, _⟩
  · subst h2; simp at hcl; subst hcl; simp at hl; omega
  · subst h1
    obtain ⟨lo, hi⟩ := fr
    have hget : ∀ j, j < m → c[off' + (i * sz + off) + j]? = out[j]? := by
      intro j hj
      have hlt : i * sz + off + j < cs.length := by omega
      have := h4 (i * sz + off + j) cs[i * sz + off + j] (List.getElem?_eq_getElem hlt)
      rw [show off' + (i * sz + off) + j = off' + (i * sz + off + j) by omega, this, ← hout, List.getElem?_take_of_lt hj, List.getElem?_drop, List.getElem?_eq_getElem hlt]
    have hbig : off' + (i * sz + off) + m ≤ c.size := by
      have h5 := hget (m - 1) (by omega)
      have hol : out.length = m := by rw [← hout]; simp; omega
      rw [List.getElem?_eq_getElem (by omega)] at h5
      have := (Array.getElem?_eq_some_iff.1 h5).1
      omega
    have hrun := runLoadAgg' (P := P) hs hm h3 (o := off' + (i * sz + off)) hbig
    have hext : c.extract (off' + (i * sz + off)) (off' + (i * sz + off) + m) = out.toArray := by
      have hol : out.length = m := by rw [← hout]; simp; omega
      apply Array.ext'
      apply List.ext_getElem?
      intro j
      by_cases hj : j < m
      · have := hget j hj
        simp only [Array.getElem?_toList, Array.getElem?_extract]
        rw [if_pos (by omega)]
        exact this
      · rw [List.getElem?_eq_none (by simp; omega), List.getElem?_eq_none (by simp; omega)]
    rw [hext] at hrun
    exact hrun
theorem EvW.ldAgg {out : List Value} (hx : ev F x = some (elemP sz v i off)) (hs : aggB P t = true) (hm : szB P t = some m) (hpos : Nat.ble 1 m = true) (hB : Sees w0 S0 (.row sz v len cs)) (hout : (cs.drop (i * sz + off)).take m = out) (hl : i * sz + off + m ≤ cs.length) :
    EvW P w0 S0 n F A ⟨dd, .load t x, T, pos, af, g⟩ (.agg out.toArray) :=
  .pure fun a' w ha hst => by
    obtain ⟨R, hR⟩ := hB.at hst
    simp [execOp, ha.eval hx, runLoadAggAt hs hm (Nat.le_of_ble_eq_true hpos) hR hout hl]
theorem EvW.ldElem {α : Type} {xs : List α} {f : α → List Value} {z : α} (hx : ev F x = some (elemP sz v i 0)) (hs : aggB P t = true) (hm : szB P t = some sz) (hpos : Nat.ble 1 sz = true) (hf : ∀ a, (f a).length = sz) (hB : Sees w0 S0 (.row sz v len (xs.flatMap f))) (hi : i < xs.length) :
    EvW P w0 S0 n F A ⟨dd, .load t x, T, pos, af, g⟩ (.agg (f (xs.getD i z)).toArray) :=
  .ldAgg hx hs hm hpos hB (flat_get hf hi) (by
    rw [flat_length hf]
    calc i * sz + 0 + sz = (i + 1) * sz := by rw [Nat.add_mul]; omega
      _ ≤ xs.length * sz := Nat.mul_le_mul_right _ hi)
theorem St.ownNil {w : World} (h : St w0 S0 A w) : St w0 S0 (.own e sz (.slice none 0 0) 0 [] :: A) w :=
  h.mono fun S w hs => ⟨fun _ => False, S, fun b => by simp, fun b hb => hb.elim, ⟨by simp, .inl ⟨rfl, rfl, fun _ h => h⟩⟩, hs⟩
theorem WL.ownNil (e sz : Nat) (kk : WL P w0 S0 n ops Q rest F (.own e sz (.slice none 0 0) 0 [] :: A)) : WL P w0 S0 n ops Q rest F A := kk.conv fun _ hs => hs.ownNil
theorem WC.ownNil {c : Code} (e sz : Nat) (kk : WC P w0 S0 n c Q F (.own e sz (.slice none 0 0) 0 [] :: A)) : WC P w0 S0 n c Q F A := kk.conv fun _ hs => hs.ownNil
theorem WL.keep {xs : List HP} (t : TakeL xs A r) (h : WL P w0 S0 n ops Q rest F xs) : WL P w0 S0 n ops Q rest F A := h.conv fun _ hs => hs.keep t
theorem WC.keep {c : Code} {xs : List HP} (t : TakeL xs A r) (h : WC P w0 S0 n c Q F xs) : WC P w0 S0 n c Q F A := h.conv fun _ hs => hs.keep t
/-- The byte that a number ends with. -/
def bytOf (x : Int) : UInt8 := UInt8.ofNat (IntKind.u8.wrap x).toNat
theorem byt_of (x : Int) : byt (bytOf x) = .int .u8 (IntKind.u8.wrap x) := by
  have := wrap_bounds IntKind.u8 x
  simp only [IntKind.min, IntKind.max, IntKind.signed, IntKind.bits, Bool.false_eq_true, ↓reduceIte] at this
  simp only [byt, bytOf, Value.int.injEq, true_and]
  rw [UInt8.toNat_ofNat']
  omega
/-- A slice is one cell. -/
theorem sl_cells {v : Value} (h : ∃ p l c, v = .slice p l c) : v.cells = [v].toArray ∧ [v].all (·.oneCell') = true := by
  obtain ⟨p, l, c, rfl⟩ := h; exact ⟨rfl, rfl⟩
theorem own_sl {w : World} {S : BSet} (h : (HP.own e sz v len cs).sat S w) : ∃ p l c, v = .slice p l c := by
  rcases own_shape h with ⟨h, _⟩ | ⟨b, cap, h, _⟩ <;> exact ⟨_, _, _, h⟩
theorem WL.slOwn (ht : Take (.own e sz v len cs) A r) (kk : v.cells = [v].toArray → [v].all (·.oneCell') = true → WL P w0 S0 n ops Q rest F A) : WL P w0 S0 n ops Q rest F A :=
  ⟨fun a w ha hst => by
    obtain ⟨S, h⟩ := hst.take ht
    have := sl_cells (own_sl h)
    exact (kk this.1 this.2).go a w ha hst⟩
theorem WC.slOwn {c : Code} (ht : Take (.own e sz v len cs) A r) (kk : v.cells = [v].toArray → [v].all (·.oneCell') = true → WC P w0 S0 n c Q F A) : WC P w0 S0 n c Q F A :=
  ⟨fun a w ha hst => by
    obtain ⟨S, h⟩ := hst.take ht
    have := sl_cells (own_sl h)
    exact (kk this.1 this.2).go a w ha hst⟩
theorem runEqPtrNil {w : World} {pa : Addr} (hu : P.underlying t = some (.pointer e)) : (Op.equal t (.pointer (some pa)) (.pointer none)).run P w = .ok false w := by
  have key : ∀ m, (Op.equalIn (m + 1) t (.pointer (some pa)) (.pointer none)).run P w = .ok false w := fun m => by simp [Op.equalIn, run_underlying hu]
  exact key 9999
/-- A pointer against nil. -/
theorem EvW.peqN {pa : Addr} (hx : ev F x = some (.pointer (some pa))) (hy : ev F y = some (.pointer none)) (hu : P.underlying t = some (.pointer e)) : EvW P w0 S0 n F A ⟨dd, .binOp .eql t x y ty, T, pos, af, g⟩ (.bool false) :=
  .pure fun a' w ha _ => by simp [execOp, ha.eval hx, ha.eval hy, eqGuard, binOp, runEqPtrNil hu]
theorem EvW.pneN {pa : Addr} (hx : ev F x = some (.pointer (some pa))) (hy : ev F y = some (.pointer none)) (hu : P.underlying t = some (.pointer e)) : EvW P w0 S0 n F A ⟨dd, .binOp .neq t x y ty, T, pos, af, g⟩ (.bool true) :=
  .pure fun a' w ha _ => by simp [execOp, ha.eval hx, ha.eval hy, eqGuard, binOp, runEqPtrNil hu]
/-- A call in a region whose order is open, of a contract that gives back just what it took. -/
theorem EvW.callK {f : FuncId} {args : List Operand} {ats : Array TypeId} {vals : List Value} (A1 : List HP) {A2 : List HP} {R : Value → List HP → Prop} (hargs : evs F args = some vals) (hcall : ∀ w, (callFunc f vals.toArray).run P w = .ok (.enter f vals.toArray) w) (ht : TakeL A1 A A2)
    (hspec : ∀ w S, (sepL A1).sat S w → (∀ B, Sees w0 S0 B → Sees w S B) → (∀ B r, Take B A2 r → Sees w S B) → Tri P f vals.toArray w S R)
    (hR : ∀ v' A', R v' A' → v' = v ∧ A' = A1) : EvW P w0 S0 n F A ⟨dd, .call ⟨.value (.func f), args.toArray, ats⟩, T, pos, af, g⟩ v :=
  ⟨(EffW.callT (A' := A) hargs hspec hcall ht hR (fun _ h => h.mono fun S w hs => ht.unstar (sepL_unappend hs))).go⟩
end
end Go.BK
namespace Go.Proofs.Ytknclcjmfgdphaa
open Go.BK
theorem Try.mixed : Try.prog.follows .mixedOrders = true := Checked.mixed Try.checked
instance : UndC Try.prog 3 (.int .i64) := ⟨Try.underlying3⟩
instance : ScalC Try.prog 3 := ⟨by kernel_rfl⟩
instance : SzC Try.prog 3 1 := ⟨by kernel_rfl⟩
instance : ByC Try.prog 3 8 := ⟨by kernel_rfl⟩
instance : ZvC Try.prog 3 (.int .i64 0) := ⟨by kernel_rfl⟩
instance : UndC Try.prog 4 .bool := ⟨Try.underlying4⟩
instance : ScalC Try.prog 4 := ⟨by kernel_rfl⟩
instance : SzC Try.prog 4 1 := ⟨by kernel_rfl⟩
instance : ByC Try.prog 4 1 := ⟨by kernel_rfl⟩
instance : ZvC Try.prog 4 (.bool false) := ⟨by kernel_rfl⟩
instance : UndC Try.prog 5 (.int .u8) := ⟨Try.underlying5⟩
instance : ScalC Try.prog 5 := ⟨by kernel_rfl⟩
instance : SzC Try.prog 5 1 := ⟨by kernel_rfl⟩
instance : ByC Try.prog 5 1 := ⟨by kernel_rfl⟩
instance : ZvC Try.prog 5 (.int .u8 0) := ⟨by kernel_rfl⟩
instance : UndC Try.prog 9 .string := ⟨Try.underlying9⟩
instance : ScalC Try.prog 9 := ⟨by kernel_rfl⟩
instance : SzC Try.prog 9 1 := ⟨by kernel_rfl⟩
instance : ByC Try.prog 9 16 := ⟨by kernel_rfl⟩
instance : ZvC Try.prog 9 (.string ⟨#[]⟩) := ⟨by kernel_rfl⟩
instance : UndC Try.prog 22 (.slice 9) := ⟨Try.underlying22⟩
instance : ScalC Try.prog 22 := ⟨by kernel_rfl⟩
instance : SzC Try.prog 22 1 := ⟨by kernel_rfl⟩
instance : ByC Try.prog 22 24 := ⟨by kernel_rfl⟩
instance : ZvC Try.prog 22 (.slice none 0 0) := ⟨by kernel_rfl⟩
instance : UndC Try.prog 24 (.pointer 61) := ⟨Try.underlying24⟩
instance : ScalC Try.prog 24 := ⟨by kernel_rfl⟩
instance : SzC Try.prog 24 1 := ⟨by kernel_rfl⟩
instance : ByC Try.prog 24 8 := ⟨by kernel_rfl⟩
instance : ZvC Try.prog 24 (.pointer none) := ⟨by kernel_rfl⟩
instance : UndC Try.prog 26 (.pointer 41) := ⟨Try.underlying26⟩
instance : ScalC Try.prog 26 := ⟨by kernel_rfl⟩
instance : SzC Try.prog 26 1 := ⟨by kernel_rfl⟩
instance : ByC Try.prog 26 8 := ⟨by kernel_rfl⟩
instance : ZvC Try.prog 26 (.pointer none) := ⟨by kernel_rfl⟩
instance : UndC Try.prog 27 (.slice 34) := ⟨Try.underlying27⟩
instance : ScalC Try.prog 27 := ⟨by kernel_rfl⟩
instance : SzC Try.prog 27 1 := ⟨by kernel_rfl⟩
instance : ByC Try.prog 27 24 := ⟨by kernel_rfl⟩
instance : ZvC Try.prog 27 (.slice none 0 0) := ⟨by kernel_rfl⟩
instance : UndC Try.prog 28 (.int .i64) := ⟨Try.underlying28⟩
instance : ScalC Try.prog 28 := ⟨by kernel_rfl⟩
instance : SzC Try.prog 28 1 := ⟨by kernel_rfl⟩
instance : ByC Try.prog 28 8 := ⟨by kernel_rfl⟩
instance : ZvC Try.prog 28 (.int .i64 0) := ⟨by kernel_rfl⟩
instance : AggC Try.prog 33 := ⟨by kernel_rfl⟩
instance : SzC Try.prog 33 3 := ⟨by kernel_rfl⟩
instance : ByC Try.prog 33 32 := ⟨by kernel_rfl⟩
instance : ZvC Try.prog 33 (.agg #[.int .i64 0, .int .i64 0, .string ⟨#[]⟩]) := ⟨by kernel_rfl⟩
instance : PlC Try.prog 33 [(0, 1), (1, 1), (2, 1)] := ⟨by kernel_rfl⟩
instance : AggC Try.prog 34 := ⟨by kernel_rfl⟩
instance : SzC Try.prog 34 3 := ⟨by kernel_rfl⟩
instance : ByC Try.prog 34 32 := ⟨by kernel_rfl⟩
instance : ZvC Try.prog 34 (.agg #[.int .i64 0, .int .i64 0, .string ⟨#[]⟩]) := ⟨by kernel_rfl⟩
instance : PlC Try.prog 34 [(0, 1), (1, 1), (2, 1)] := ⟨by kernel_rfl⟩
instance : FldC Try.prog 34 0 0 := ⟨by kernel_rfl⟩
instance : FldC Try.prog 34 1 1 := ⟨by kernel_rfl⟩
instance : FldC Try.prog 34 2 2 := ⟨by kernel_rfl⟩
instance : AggC Try.prog 37 := ⟨by kernel_rfl⟩
instance : SzC Try.prog 37 2 := ⟨by kernel_rfl⟩
instance : ByC Try.prog 37 24 := ⟨by kernel_rfl⟩
instance : ZvC Try.prog 37 (.agg #[.string ⟨#[]⟩, .bool false]) := ⟨by kernel_rfl⟩
instance : PlC Try.prog 37 [(0, 1), (1, 1)] := ⟨by kernel_rfl⟩
instance : AggC Try.prog 38 := ⟨by kernel_rfl⟩
instance : SzC Try.prog 38 2 := ⟨by kernel_rfl⟩
instance : ByC Try.prog 38 24 := ⟨by kernel_rfl⟩
instance : ZvC Try.prog 38 (.agg #[.string ⟨#[]⟩, .bool false]) := ⟨by kernel_rfl⟩
instance : PlC Try.prog 38 [(0, 1), (1, 1)] := ⟨by kernel_rfl⟩
instance : FldC Try.prog 38 0 0 := ⟨by kernel_rfl⟩
instance : FldC Try.prog 38 1 1 := ⟨by kernel_rfl⟩
instance : UndC Try.prog 39 (.slice 68) := ⟨Try.underlying39⟩
instance : ScalC Try.prog 39 := ⟨by kernel_rfl⟩
instance : SzC Try.prog 39 1 := ⟨by kernel_rfl⟩
instance : ByC Try.prog 39 24 := ⟨by kernel_rfl⟩
instance : ZvC Try.prog 39 (.slice none 0 0) := ⟨by kernel_rfl⟩
instance : AggC Try.prog 40 := ⟨by kernel_rfl⟩
instance : SzC Try.prog 40 7 := ⟨by kernel_rfl⟩
instance : ByC Try.prog 40 80 := ⟨by kernel_rfl⟩
instance : ZvC Try.prog 40 (.agg #[.string ⟨#[]⟩, .bool false, .pointer none, .slice none 0 0, .int .i64 0, .int .i64 0, .bool false]) := ⟨by kernel_rfl⟩
instance : PlC Try.prog 40 [(0, 2), (2, 1), (3, 1), (4, 1), (5, 1), (6, 1)] := ⟨by kernel_rfl⟩
instance : AggC Try.prog 41 := ⟨by kernel_rfl⟩
instance : SzC Try.prog 41 7 := ⟨by kernel_rfl⟩
instance : ByC Try.prog 41 80 := ⟨by kernel_rfl⟩
instance : ZvC Try.prog 41 (.agg #[.string ⟨#[]⟩, .bool false, .pointer none, .slice none 0 0, .int .i64 0, .int .i64 0, .bool false]) := ⟨by kernel_rfl⟩
instance : PlC Try.prog 41 [(0, 2), (2, 1), (3, 1), (4, 1), (5, 1), (6, 1)] := ⟨by kernel_rfl⟩
instance : FldC Try.prog 41 0 0 := ⟨by kernel_rfl⟩
instance : FldC Try.prog 41 1 2 := ⟨by kernel_rfl⟩
instance : FldC Try.prog 41 2 3 := ⟨by kernel_rfl⟩
instance : FldC Try.prog 41 3 4 := ⟨by kernel_rfl⟩
instance : FldC Try.prog 41 4 5 := ⟨by kernel_rfl⟩
instance : FldC Try.prog 41 5 6 := ⟨by kernel_rfl⟩
instance : UndC Try.prog 43 (.slice 5) := ⟨Try.underlying43⟩
instance : ScalC Try.prog 43 := ⟨by kernel_rfl⟩
instance : SzC Try.prog 43 1 := ⟨by kernel_rfl⟩
instance : ByC Try.prog 43 24 := ⟨by kernel_rfl⟩
instance : ZvC Try.prog 43 (.slice none 0 0) := ⟨by kernel_rfl⟩
instance : UndC Try.prog 44 (.int .u64) := ⟨Try.underlying44⟩
instance : ScalC Try.prog 44 := ⟨by kernel_rfl⟩
instance : SzC Try.prog 44 1 := ⟨by kernel_rfl⟩
instance : ByC Try.prog 44 8 := ⟨by kernel_rfl⟩
instance : ZvC Try.prog 44 (.int .u64 0) := ⟨by kernel_rfl⟩
instance : UndC Try.prog 46 (.slice 50) := ⟨Try.underlying46⟩
instance : ScalC Try.prog 46 := ⟨by kernel_rfl⟩
instance : SzC Try.prog 46 1 := ⟨by kernel_rfl⟩
instance : ByC Try.prog 46 24 := ⟨by kernel_rfl⟩
instance : ZvC Try.prog 46 (.slice none 0 0) := ⟨by kernel_rfl⟩
instance : UndC Try.prog 48 (.slice 52) := ⟨Try.underlying48⟩
instance : ScalC Try.prog 48 := ⟨by kernel_rfl⟩
instance : SzC Try.prog 48 1 := ⟨by kernel_rfl⟩
instance : ByC Try.prog 48 24 := ⟨by kernel_rfl⟩
instance : ZvC Try.prog 48 (.slice none 0 0) := ⟨by kernel_rfl⟩
instance : AggC Try.prog 49 := ⟨by kernel_rfl⟩
instance : SzC Try.prog 49 4 := ⟨by kernel_rfl⟩
instance : ByC Try.prog 49 56 := ⟨by kernel_rfl⟩
instance : ZvC Try.prog 49 (.agg #[.int .i64 0, .int .i64 0, .string ⟨#[]⟩, .slice none 0 0]) := ⟨by kernel_rfl⟩
instance : PlC Try.prog 49 [(0, 1), (1, 1), (2, 1), (3, 1)] := ⟨by kernel_rfl⟩
instance : AggC Try.prog 50 := ⟨by kernel_rfl⟩
instance : SzC Try.prog 50 4 := ⟨by kernel_rfl⟩
instance : ByC Try.prog 50 56 := ⟨by kernel_rfl⟩
instance : ZvC Try.prog 50 (.agg #[.int .i64 0, .int .i64 0, .string ⟨#[]⟩, .slice none 0 0]) := ⟨by kernel_rfl⟩
instance : PlC Try.prog 50 [(0, 1), (1, 1), (2, 1), (3, 1)] := ⟨by kernel_rfl⟩
instance : FldC Try.prog 50 0 0 := ⟨by kernel_rfl⟩
instance : FldC Try.prog 50 1 1 := ⟨by kernel_rfl⟩
instance : FldC Try.prog 50 2 2 := ⟨by kernel_rfl⟩
instance : FldC Try.prog 50 3 3 := ⟨by kernel_rfl⟩
instance : AggC Try.prog 51 := ⟨by kernel_rfl⟩
instance : SzC Try.prog 51 2 := ⟨by kernel_rfl⟩
instance : ByC Try.prog 51 16 := ⟨by kernel_rfl⟩
instance : ZvC Try.prog 51 (.agg #[.int .i64 0, .int .i64 0]) := ⟨by kernel_rfl⟩
instance : PlC Try.prog 51 [(0, 1), (1, 1)] := ⟨by kernel_rfl⟩
instance : AggC Try.prog 52 := ⟨by kernel_rfl⟩
instance : SzC Try.prog 52 2 := ⟨by kernel_rfl⟩
instance : ByC Try.prog 52 16 := ⟨by kernel_rfl⟩
instance : ZvC Try.prog 52 (.agg #[.int .i64 0, .int .i64 0]) := ⟨by kernel_rfl⟩
instance : PlC Try.prog 52 [(0, 1), (1, 1)] := ⟨by kernel_rfl⟩
instance : FldC Try.prog 52 0 0 := ⟨by kernel_rfl⟩
instance : FldC Try.prog 52 1 1 := ⟨by kernel_rfl⟩
instance : UndC Try.prog 55 (.map 3 3) := ⟨Try.underlying55⟩
instance : ScalC Try.prog 55 := ⟨by kernel_rfl⟩
instance : SzC Try.prog 55 1 := ⟨by kernel_rfl⟩
instance : ByC Try.prog 55 8 := ⟨by kernel_rfl⟩
instance : ZvC Try.prog 55 (.map none) := ⟨by kernel_rfl⟩
instance : AggC Try.prog 56 := ⟨by kernel_rfl⟩
instance : SzC Try.prog 56 4 := ⟨by kernel_rfl⟩
instance : ByC Try.prog 56 32 := ⟨by kernel_rfl⟩
instance : ZvC Try.prog 56 (.agg #[.map none, .int .i64 0, .int .i64 0, .bool false]) := ⟨by kernel_rfl⟩
instance : PlC Try.prog 56 [(0, 1), (1, 1), (2, 1), (3, 1)] := ⟨by kernel_rfl⟩
instance : AggC Try.prog 57 := ⟨by kernel_rfl⟩
instance : SzC Try.prog 57 4 := ⟨by kernel_rfl⟩
instance : ByC Try.prog 57 32 := ⟨by kernel_rfl⟩
instance : ZvC Try.prog 57 (.agg #[.map none, .int .i64 0, .int .i64 0, .bool false]) := ⟨by kernel_rfl⟩
instance : PlC Try.prog 57 [(0, 1), (1, 1), (2, 1), (3, 1)] := ⟨by kernel_rfl⟩
instance : FldC Try.prog 57 0 0 := ⟨by kernel_rfl⟩
instance : FldC Try.prog 57 1 1 := ⟨by kernel_rfl⟩
instance : FldC Try.prog 57 2 2 := ⟨by kernel_rfl⟩
instance : FldC Try.prog 57 3 3 := ⟨by kernel_rfl⟩
instance : UndC Try.prog 58 (.array 24 9) := ⟨Try.underlying58⟩
instance : AggC Try.prog 58 := ⟨by kernel_rfl⟩
instance : SzC Try.prog 58 24 := ⟨by kernel_rfl⟩
instance : ByC Try.prog 58 384 := ⟨by kernel_rfl⟩
instance : ZvC Try.prog 58 (.agg #[.string ⟨#[]⟩, .string ⟨#[]⟩, .string ⟨#[]⟩, .string ⟨#[]⟩, .string ⟨#[]⟩, .string ⟨#[]⟩, .string ⟨#[]⟩, .string ⟨#[]⟩, .string ⟨#[]⟩, .string ⟨#[]⟩, .string ⟨#[]⟩, .string ⟨#[]⟩, .string ⟨#[]⟩, .string ⟨#[]⟩, .string ⟨#[]⟩, .string ⟨#[]⟩, .string ⟨#[]⟩, .string ⟨#[]⟩, .string ⟨#[]⟩, .string ⟨#[]⟩, .string ⟨#[]⟩, .string ⟨#[]⟩, .string ⟨#[]⟩, .string ⟨#[]⟩]) := ⟨by kernel_rfl⟩
instance : UndC Try.prog 59 (.array 24 3) := ⟨Try.underlying59⟩
instance : AggC Try.prog 59 := ⟨by kernel_rfl⟩
instance : SzC Try.prog 59 24 := ⟨by kernel_rfl⟩
instance : ByC Try.prog 59 192 := ⟨by kernel_rfl⟩
instance : ZvC Try.prog 59 (.agg #[.int .i64 0, .int .i64 0, .int .i64 0, .int .i64 0, .int .i64 0, .int .i64 0, .int .i64 0, .int .i64 0, .int .i64 0, .int .i64 0, .int .i64 0, .int .i64 0, .int .i64 0, .int .i64 0, .int .i64 0, .int .i64 0, .int .i64 0, .int .i64 0, .int .i64 0, .int .i64 0, .int .i64 0, .int .i64 0, .int .i64 0, .int .i64 0]) := ⟨by kernel_rfl⟩
instance : AggC Try.prog 60 := ⟨by kernel_rfl⟩
instance : SzC Try.prog 60 52 := ⟨by kernel_rfl⟩
instance : ByC Try.prog 60 608 := ⟨by kernel_rfl⟩
instance : ZvC Try.prog 60 (.agg #[.map none, .int .i64 0, .int .i64 0, .bool false, .string ⟨#[]⟩, .string ⟨#[]⟩, .string ⟨#[]⟩, .string ⟨#[]⟩, .string ⟨#[]⟩, .string ⟨#[]⟩, .string ⟨#[]⟩, .string ⟨#[]⟩, .string ⟨#[]⟩, .string ⟨#[]⟩, .string ⟨#[]⟩, .string ⟨#[]⟩, .string ⟨#[]⟩, .string ⟨#[]⟩, .string ⟨#[]⟩, .string ⟨#[]⟩, .string ⟨#[]⟩, .string ⟨#[]⟩, .string ⟨#[]⟩, .string ⟨#[]⟩, .string ⟨#[]⟩, .string ⟨#[]⟩, .string ⟨#[]⟩, .string ⟨#[]⟩, .int .i64 0, .int .i64 0, .int .i64 0, .int .i64 0, .int .i64 0, .int .i64 0, .int .i64 0, .int .i64 0, .int .i64 0, .int .i64 0, .int .i64 0, .int .i64 0, .int .i64 0, .int .i64 0, .int .i64 0, .int .i64 0, .int .i64 0, .int .i64 0, .int .i64 0, .int .i64 0, .int .i64 0, .int .i64 0, .int .i64 0, .int .i64 0]) := ⟨by kernel_rfl⟩
instance : PlC Try.prog 60 [(0, 4), (4, 24), (28, 24)] := ⟨by kernel_rfl⟩
instance : AggC Try.prog 61 := ⟨by kernel_rfl⟩
instance : SzC Try.prog 61 52 := ⟨by kernel_rfl⟩
instance : ByC Try.prog 61 608 := ⟨by kernel_rfl⟩
instance : ZvC Try.prog 61 (.agg #[.map none, .int .i64 0, .int .i64 0, .bool false, .string ⟨#[]⟩, .string ⟨#[]⟩, .string ⟨#[]⟩, .string ⟨#[]⟩, .string ⟨#[]⟩, .string ⟨#[]⟩, .string ⟨#[]⟩, .string ⟨#[]⟩, .string ⟨#[]⟩, .string ⟨#[]⟩, .string ⟨#[]⟩, .string ⟨#[]⟩, .string ⟨#[]⟩, .string ⟨#[]⟩, .string ⟨#[]⟩, .string ⟨#[]⟩, .string ⟨#[]⟩, .string ⟨#[]⟩, .string ⟨#[]⟩, .string ⟨#[]⟩, .string ⟨#[]⟩, .string ⟨#[]⟩, .string ⟨#[]⟩, .string ⟨#[]⟩, .int .i64 0, .int .i64 0, .int .i64 0, .int .i64 0, .int .i64 0, .int .i64 0, .int .i64 0, .int .i64 0, .int .i64 0, .int .i64 0, .int .i64 0, .int .i64 0, .int .i64 0, .int .i64 0, .int .i64 0, .int .i64 0, .int .i64 0, .int .i64 0, .int .i64 0, .int .i64 0, .int .i64 0, .int .i64 0, .int .i64 0, .int .i64 0]) := ⟨by kernel_rfl⟩
instance : PlC Try.prog 61 [(0, 4), (4, 24), (28, 24)] := ⟨by kernel_rfl⟩
instance : FldC Try.prog 61 0 0 := ⟨by kernel_rfl⟩
instance : FldC Try.prog 61 1 4 := ⟨by kernel_rfl⟩
instance : FldC Try.prog 61 2 28 := ⟨by kernel_rfl⟩
instance : UndC Try.prog 64 (.slice 70) := ⟨Try.underlying64⟩
instance : ScalC Try.prog 64 := ⟨by kernel_rfl⟩
instance : SzC Try.prog 64 1 := ⟨by kernel_rfl⟩
instance : ByC Try.prog 64 24 := ⟨by kernel_rfl⟩
instance : ZvC Try.prog 64 (.slice none 0 0) := ⟨by kernel_rfl⟩
instance : AggC Try.prog 67 := ⟨by kernel_rfl⟩
instance : SzC Try.prog 67 3 := ⟨by kernel_rfl⟩
instance : ByC Try.prog 67 24 := ⟨by kernel_rfl⟩
instance : ZvC Try.prog 67 (.agg #[.int .i64 0, .int .i64 0, .int .i64 0]) := ⟨by kernel_rfl⟩
instance : PlC Try.prog 67 [(0, 1), (1, 1), (2, 1)] := ⟨by kernel_rfl⟩
instance : AggC Try.prog 68 := ⟨by kernel_rfl⟩
instance : SzC Try.prog 68 3 := ⟨by kernel_rfl⟩
instance : ByC Try.prog 68 24 := ⟨by kernel_rfl⟩
instance : ZvC Try.prog 68 (.agg #[.int .i64 0, .int .i64 0, .int .i64 0]) := ⟨by kernel_rfl⟩
instance : PlC Try.prog 68 [(0, 1), (1, 1), (2, 1)] := ⟨by kernel_rfl⟩
instance : FldC Try.prog 68 0 0 := ⟨by kernel_rfl⟩
instance : FldC Try.prog 68 1 1 := ⟨by kernel_rfl⟩
instance : FldC Try.prog 68 2 2 := ⟨by kernel_rfl⟩
instance : AggC Try.prog 69 := ⟨by kernel_rfl⟩
instance : SzC Try.prog 69 6 := ⟨by kernel_rfl⟩
instance : ByC Try.prog 69 72 := ⟨by kernel_rfl⟩
instance : ZvC Try.prog 69 (.agg #[.int .i64 0, .int .i64 0, .int .i64 0, .string ⟨#[]⟩, .bool false, .slice none 0 0]) := ⟨by kernel_rfl⟩
instance : PlC Try.prog 69 [(0, 3), (3, 2), (5, 1)] := ⟨by kernel_rfl⟩
instance : AggC Try.prog 70 := ⟨by kernel_rfl⟩
instance : SzC Try.prog 70 6 := ⟨by kernel_rfl⟩
instance : ByC Try.prog 70 72 := ⟨by kernel_rfl⟩
instance : ZvC Try.prog 70 (.agg #[.int .i64 0, .int .i64 0, .int .i64 0, .string ⟨#[]⟩, .bool false, .slice none 0 0]) := ⟨by kernel_rfl⟩
instance : PlC Try.prog 70 [(0, 3), (3, 2), (5, 1)] := ⟨by kernel_rfl⟩
instance : FldC Try.prog 70 0 0 := ⟨by kernel_rfl⟩
instance : FldC Try.prog 70 1 3 := ⟨by kernel_rfl⟩
instance : FldC Try.prog 70 2 5 := ⟨by kernel_rfl⟩
instance : UndC Try.prog 77 (.pointer 38) := ⟨Try.underlying77⟩
instance : ScalC Try.prog 77 := ⟨by kernel_rfl⟩
instance : SzC Try.prog 77 1 := ⟨by kernel_rfl⟩
instance : ByC Try.prog 77 8 := ⟨by kernel_rfl⟩
instance : ZvC Try.prog 77 (.pointer none) := ⟨by kernel_rfl⟩
instance : UndC Try.prog 78 (.pointer 80) := ⟨Try.underlying78⟩
instance : ScalC Try.prog 78 := ⟨by kernel_rfl⟩
instance : SzC Try.prog 78 1 := ⟨by kernel_rfl⟩
instance : ByC Try.prog 78 8 := ⟨by kernel_rfl⟩
instance : ZvC Try.prog 78 (.pointer none) := ⟨by kernel_rfl⟩
instance : AggC Try.prog 79 := ⟨by kernel_rfl⟩
instance : SzC Try.prog 79 4 := ⟨by kernel_rfl⟩
instance : ByC Try.prog 79 64 := ⟨by kernel_rfl⟩
instance : ZvC Try.prog 79 (.agg #[.pointer none, .pointer none, .slice none 0 0, .slice none 0 0]) := ⟨by kernel_rfl⟩
instance : PlC Try.prog 79 [(0, 1), (1, 1), (2, 1), (3, 1)] := ⟨by kernel_rfl⟩
instance : AggC Try.prog 80 := ⟨by kernel_rfl⟩
instance : SzC Try.prog 80 4 := ⟨by kernel_rfl⟩
instance : ByC Try.prog 80 64 := ⟨by kernel_rfl⟩
instance : ZvC Try.prog 80 (.agg #[.pointer none, .pointer none, .slice none 0 0, .slice none 0 0]) := ⟨by kernel_rfl⟩
instance : PlC Try.prog 80 [(0, 1), (1, 1), (2, 1), (3, 1)] := ⟨by kernel_rfl⟩
instance : FldC Try.prog 80 0 0 := ⟨by kernel_rfl⟩
instance : FldC Try.prog 80 1 1 := ⟨by kernel_rfl⟩
instance : FldC Try.prog 80 2 2 := ⟨by kernel_rfl⟩
instance : FldC Try.prog 80 3 3 := ⟨by kernel_rfl⟩
instance : UndC Try.prog 84 (.pointer 57) := ⟨Try.underlying84⟩
instance : ScalC Try.prog 84 := ⟨by kernel_rfl⟩
instance : SzC Try.prog 84 1 := ⟨by kernel_rfl⟩
instance : ByC Try.prog 84 8 := ⟨by kernel_rfl⟩
instance : ZvC Try.prog 84 (.pointer none) := ⟨by kernel_rfl⟩
instance : ScalC Try.prog 94 := ⟨by kernel_rfl⟩
instance : SzC Try.prog 94 1 := ⟨by kernel_rfl⟩
instance : ByC Try.prog 94 8 := ⟨by kernel_rfl⟩
instance : ZvC Try.prog 94 (.nilFunc) := ⟨by kernel_rfl⟩
instance : ScalC Try.prog 96 := ⟨by kernel_rfl⟩
instance : SzC Try.prog 96 1 := ⟨by kernel_rfl⟩
instance : ByC Try.prog 96 8 := ⟨by kernel_rfl⟩
instance : ZvC Try.prog 96 (.nilFunc) := ⟨by kernel_rfl⟩
instance : UndC Try.prog 99 (.pointer 130) := ⟨Try.underlying99⟩
instance : ScalC Try.prog 99 := ⟨by kernel_rfl⟩
instance : SzC Try.prog 99 1 := ⟨by kernel_rfl⟩
instance : ByC Try.prog 99 8 := ⟨by kernel_rfl⟩
instance : ZvC Try.prog 99 (.pointer none) := ⟨by kernel_rfl⟩
instance : UndC Try.prog 112 (.pointer 114) := ⟨Try.underlying112⟩
instance : ScalC Try.prog 112 := ⟨by kernel_rfl⟩
instance : SzC Try.prog 112 1 := ⟨by kernel_rfl⟩
instance : ByC Try.prog 112 8 := ⟨by kernel_rfl⟩
instance : ZvC Try.prog 112 (.pointer none) := ⟨by kernel_rfl⟩
instance : AggC Try.prog 113 := ⟨by kernel_rfl⟩
instance : SzC Try.prog 113 2 := ⟨by kernel_rfl⟩
instance : ByC Try.prog 113 32 := ⟨by kernel_rfl⟩
instance : ZvC Try.prog 113 (.agg #[.pointer none, .slice none 0 0]) := ⟨by kernel_rfl⟩
instance : PlC Try.prog 113 [(0, 1), (1, 1)] := ⟨by kernel_rfl⟩
instance : AggC Try.prog 114 := ⟨by kernel_rfl⟩
instance : SzC Try.prog 114 2 := ⟨by kernel_rfl⟩
instance : ByC Try.prog 114 32 := ⟨by kernel_rfl⟩
instance : ZvC Try.prog 114 (.agg #[.pointer none, .slice none 0 0]) := ⟨by kernel_rfl⟩
instance : PlC Try.prog 114 [(0, 1), (1, 1)] := ⟨by kernel_rfl⟩
instance : FldC Try.prog 114 0 0 := ⟨by kernel_rfl⟩
instance : FldC Try.prog 114 1 1 := ⟨by kernel_rfl⟩
instance : ScalC Try.prog 116 := ⟨by kernel_rfl⟩
instance : SzC Try.prog 116 1 := ⟨by kernel_rfl⟩
instance : ByC Try.prog 116 16 := ⟨by kernel_rfl⟩
instance : ZvC Try.prog 116 (.nilIface) := ⟨by kernel_rfl⟩
instance : ScalC Try.prog 117 := ⟨by kernel_rfl⟩
instance : SzC Try.prog 117 1 := ⟨by kernel_rfl⟩
instance : ByC Try.prog 117 16 := ⟨by kernel_rfl⟩
instance : ZvC Try.prog 117 (.nilIface) := ⟨by kernel_rfl⟩
instance : UndC Try.prog 124 (.slice 3) := ⟨Try.underlying124⟩
instance : ScalC Try.prog 124 := ⟨by kernel_rfl⟩
instance : SzC Try.prog 124 1 := ⟨by kernel_rfl⟩
instance : ByC Try.prog 124 24 := ⟨by kernel_rfl⟩
instance : ZvC Try.prog 124 (.slice none 0 0) := ⟨by kernel_rfl⟩
instance : AggC Try.prog 127 := ⟨by kernel_rfl⟩
instance : SzC Try.prog 127 1 := ⟨by kernel_rfl⟩
instance : ByC Try.prog 127 8 := ⟨by kernel_rfl⟩
instance : ZvC Try.prog 127 (.agg #[.int .i64 0]) := ⟨by kernel_rfl⟩
instance : PlC Try.prog 127 [(0, 1)] := ⟨by kernel_rfl⟩
instance : AggC Try.prog 128 := ⟨by kernel_rfl⟩
instance : SzC Try.prog 128 1 := ⟨by kernel_rfl⟩
instance : ByC Try.prog 128 8 := ⟨by kernel_rfl⟩
instance : ZvC Try.prog 128 (.agg #[.int .i64 0]) := ⟨by kernel_rfl⟩
instance : PlC Try.prog 128 [(0, 1)] := ⟨by kernel_rfl⟩
instance : FldC Try.prog 128 0 0 := ⟨by kernel_rfl⟩
instance : AggC Try.prog 129 := ⟨by kernel_rfl⟩
instance : SzC Try.prog 129 3 := ⟨by kernel_rfl⟩
instance : ByC Try.prog 129 40 := ⟨by kernel_rfl⟩
instance : ZvC Try.prog 129 (.agg #[.int .i64 0, .slice none 0 0, .int .i64 0]) := ⟨by kernel_rfl⟩
instance : PlC Try.prog 129 [(0, 1), (1, 1), (2, 1)] := ⟨by kernel_rfl⟩
instance : AggC Try.prog 130 := ⟨by kernel_rfl⟩
instance : SzC Try.prog 130 3 := ⟨by kernel_rfl⟩
instance : ByC Try.prog 130 40 := ⟨by kernel_rfl⟩
instance : ZvC Try.prog 130 (.agg #[.int .i64 0, .slice none 0 0, .int .i64 0]) := ⟨by kernel_rfl⟩
instance : PlC Try.prog 130 [(0, 1), (1, 1), (2, 1)] := ⟨by kernel_rfl⟩
instance : FldC Try.prog 130 0 0 := ⟨by kernel_rfl⟩
instance : FldC Try.prog 130 1 1 := ⟨by kernel_rfl⟩
instance : FldC Try.prog 130 2 2 := ⟨by kernel_rfl⟩
instance : UndC Try.prog 134 (.int .u32) := ⟨Try.underlying134⟩
instance : ScalC Try.prog 134 := ⟨by kernel_rfl⟩
instance : SzC Try.prog 134 1 := ⟨by kernel_rfl⟩
instance : ByC Try.prog 134 4 := ⟨by kernel_rfl⟩
instance : ZvC Try.prog 134 (.int .u32 0) := ⟨by kernel_rfl⟩
instance : UndC Try.prog 137 (.int .u64) := ⟨Try.underlying137⟩
instance : ScalC Try.prog 137 := ⟨by kernel_rfl⟩
instance : SzC Try.prog 137 1 := ⟨by kernel_rfl⟩
instance : ByC Try.prog 137 8 := ⟨by kernel_rfl⟩
instance : ZvC Try.prog 137 (.int .u64 0) := ⟨by kernel_rfl⟩
instance : UndC Try.prog 140 (.pointer 5) := ⟨Try.underlying140⟩
instance : ScalC Try.prog 140 := ⟨by kernel_rfl⟩
instance : SzC Try.prog 140 1 := ⟨by kernel_rfl⟩
instance : ByC Try.prog 140 8 := ⟨by kernel_rfl⟩
instance : ZvC Try.prog 140 (.pointer none) := ⟨by kernel_rfl⟩
instance : UndC Try.prog 143 (.pointer 155) := ⟨Try.underlying143⟩
instance : ScalC Try.prog 143 := ⟨by kernel_rfl⟩
instance : SzC Try.prog 143 1 := ⟨by kernel_rfl⟩
instance : ByC Try.prog 143 8 := ⟨by kernel_rfl⟩
instance : ZvC Try.prog 143 (.pointer none) := ⟨by kernel_rfl⟩
instance : UndC Try.prog 149 (.pointer 128) := ⟨Try.underlying149⟩
instance : ScalC Try.prog 149 := ⟨by kernel_rfl⟩
instance : SzC Try.prog 149 1 := ⟨by kernel_rfl⟩
instance : ByC Try.prog 149 8 := ⟨by kernel_rfl⟩
instance : ZvC Try.prog 149 (.pointer none) := ⟨by kernel_rfl⟩
instance : ScalC Try.prog 150 := ⟨by kernel_rfl⟩
instance : SzC Try.prog 150 1 := ⟨by kernel_rfl⟩
instance : ByC Try.prog 150 8 := ⟨by kernel_rfl⟩
instance : ZvC Try.prog 150 (.pointer none) := ⟨by kernel_rfl⟩
instance : AggC Try.prog 154 := ⟨by kernel_rfl⟩
instance : SzC Try.prog 154 2 := ⟨by kernel_rfl⟩
instance : ByC Try.prog 154 24 := ⟨by kernel_rfl⟩
instance : ZvC Try.prog 154 (.agg #[.int .i64 0, .string ⟨#[]⟩]) := ⟨by kernel_rfl⟩
instance : PlC Try.prog 154 [(0, 1), (1, 1)] := ⟨by kernel_rfl⟩
instance : AggC Try.prog 155 := ⟨by kernel_rfl⟩
instance : SzC Try.prog 155 2 := ⟨by kernel_rfl⟩
instance : ByC Try.prog 155 24 := ⟨by kernel_rfl⟩
instance : ZvC Try.prog 155 (.agg #[.int .i64 0, .string ⟨#[]⟩]) := ⟨by kernel_rfl⟩
instance : PlC Try.prog 155 [(0, 1), (1, 1)] := ⟨by kernel_rfl⟩
instance : FldC Try.prog 155 0 0 := ⟨by kernel_rfl⟩
instance : FldC Try.prog 155 1 1 := ⟨by kernel_rfl⟩
end Go.Proofs.Ytknclcjmfgdphaa
namespace Go.Proofs.Ytknclcjmfgdphaa
open Go.RowKit Go.BK
/-- A writer: its error, its bytes, its limit. -/
structure PW where
  e : Int
  out : List UInt8
  lim : Int
def PW.note (m : PW) (c : Int) : PW := { m with e := if m.e = 0 then c else m.e }
def PW.add (m : PW) (b : List UInt8) : PW := { m with out := m.out ++ b }
def PW.put (m : PW) (b : List UInt8) : PW :=
  if m.lim - m.out.length < b.length then m.note 2 else if m.e = 0 then m.add b else m
/-- There is room for so many bytes more: by the limit, or by the bytes themselves. -/
def PW.fits (m : PW) (r : Nat) : Prop := 0 ≤ m.lim ∧ m.lim ≤ 9223372036854775807 ∧ ((m.lim ≤ 140737488355328 ∧ m.out.length ≤ 140737488355328) ∨ m.out.length + r ≤ 140737488355328)
theorem PW.fits.put {m : PW} {b : List UInt8} {r : Nat} (h : m.fits (b.length + r)) : (m.put b).fits r := by
  obtain ⟨h1, h2, h3⟩ := h
  unfold PW.put
  split
  · exact ⟨h1, h2, h3.elim .inl fun h => .inr (by simp only [PW.note]; omega)⟩
  · split
    · refine ⟨h1, h2, h3.elim (fun h => .inl ⟨h.1, ?_⟩) fun h => .inr ?_⟩ <;> simp only [PW.add, List.length_append] <;> omega
    · exact ⟨h1, h2, h3.elim .inl fun h => .inr (by omega)⟩
theorem PW.fits.note {m : PW} {c : Int} {r : Nat} (h : m.fits r) : (m.note c).fits r := h
theorem PW.fits.le {m : PW} {r r' : Nat} (h : m.fits r) (hr : r' ≤ r) : m.fits r' := ⟨h.1, h.2.1, h.2.2.elim .inl fun h => .inr (by omega)⟩
theorem PW.fits.room {m : PW} {r : Nat} (h : m.fits r) (hr : ¬ m.lim - m.out.length < r) : m.out.length + r ≤ 140737488355328 := by
  obtain ⟨h1, h2, h3⟩ := h; omega
theorem PW.fits.fold {α : Type} {f : PW → α → PW} {g : α → Nat} (hf : ∀ (m : PW) x r, m.fits (g x + r) → (f m x).fits r) : ∀ (l : List α) {m : PW} (i : Nat), m.fits (l.map g).sum → ((l.take i).foldl f m).fits ((l.drop i).map g).sum := by
  intro l
  induction l with
  | nil => intro m i h; simpa using h
  | cons x t ih =>
    intro m i h
    cases i with
    | zero => simpa using h
    | succ i =>
      simp only [List.take_succ_cons, List.foldl_cons, List.drop_succ_cons]
      exact ih i (hf m x _ (by simpa using h))
theorem drop_sum {α : Type} (g : α → Nat) (l : List α) (z : α) (i : Nat) (h : i < l.length) : ((l.drop i).map g).sum = g (l.getD i z) + ((l.drop (i + 1)).map g).sum := by
  rw [List.drop_eq_getElem_cons h, List.map_cons, List.sum_cons]
  simp [List.getD_eq_getElem?_getD, List.getElem?_eq_getElem h]
theorem note_spec (b T : Nat) (e c : Int) (cs : List Value) (e' : Int) (he : (if e = 0 then c else e) = e') (w : World) (S : BSet) (hS : (sepL [.blk b (i64 e :: cs).toArray T]).sat S w) :
    Tri Try.prog 80 #[ptr b 0, i64 c] w S fun u A => u = .tuple #[] ∧ A = [.blk b (i64 e' :: cs).toArray T] := by
  refine Tri.enter (l := [ptr b 0, i64 c]) Try.func80 rfl Try.ntmps80 rfl [(0, ptr b 0), (1, i64 c)] (subA rfl) hS ?_
  by_cases h : e = 0
  · simp only [h, ↓reduceIte] at he
    subst he
    subst h
    repeat first
      | (apply WL.q; exact rfl; exact rfl; exact rfl; (first | (apply EvW.move; exact rfl) | (apply EvW.nilPtr; exact rfl) | (apply EvW.fieldAddr0; exact rfl; exact FldC.eq) | (apply EvW.load; exact rfl; exact ScalC.eq; (focus ((repeat constructor); done)); exact rfl) | (apply EvW.cmpT; exact rfl; exact rfl; exact rfl; omega)))
      | refine WC.seq ?_ | refine WC.region ?_ | refine WL.nil ?_ | refine WE.next ?_ | refine WC.condT rfl ?_ | (apply WL.store; exact rfl; exact rfl; (first | assumption | exact rfl); exact SzC.eq; (first | assumption | exact rfl); (focus ((repeat constructor); done)))
    exact WE.end0 rfl ⟨rfl, rfl⟩
  · simp only [h, ↓reduceIte] at he
    subst he
    repeat first
      | (apply WL.q; exact rfl; exact rfl; exact rfl; (first | (apply EvW.move; exact rfl) | (apply EvW.nilPtr; exact rfl) | (apply EvW.fieldAddr0; exact rfl; exact FldC.eq) | (apply EvW.load; exact rfl; exact ScalC.eq; (focus ((repeat constructor); done)); exact rfl) | (apply EvW.cmpF; exact rfl; exact rfl; exact rfl; omega)))
      | refine WC.seq ?_ | refine WC.region ?_ | refine WL.nil ?_ | refine WE.next ?_ | refine WC.skip ?_ | refine WC.condF rfl ?_
    exact WE.end0 rfl ⟨rfl, rfl⟩
theorem well_spec (b T : Nat) (e : Int) (cs : List Value) (w : World) (S : BSet) (hS : (sepL [.blk b (i64 e :: cs).toArray T]).sat S w) :
    Tri Try.prog 64 #[ptr b 0] w S fun u A => u = .bool (decide (e = 0)) ∧ A = [.blk b (i64 e :: cs).toArray T] := by
  refine Tri.enter (l := [ptr b 0]) Try.func64 rfl Try.ntmps64 rfl [(0, ptr b 0)] (subA rfl) hS ?_
  repeat first
    | (apply WL.q; exact rfl; exact rfl; exact rfl; (first | (apply EvW.move; exact rfl) | (apply EvW.assign; exact rfl) | (apply EvW.nilPtr; exact rfl) | (apply EvW.fieldAddr0; exact rfl; exact FldC.eq) | (apply EvW.load; exact rfl; exact ScalC.eq; (focus ((repeat constructor); done)); exact rfl) | (apply EvW.cmp; exact rfl; exact rfl; exact rfl)))
    | refine WC.seq ?_ | refine WC.region ?_ | refine WL.nil ?_ | refine WE.next ?_ | refine WC.ret ?_
  refine WE.ret1 rfl rfl ?_
  exact ⟨rfl, rfl⟩
theorem put_spec (b : Nat) (v pv : Value) (m : PW) (bs : List UInt8) (w : World) (S : BSet) (hS : (sepL [.own 5 1 v m.out.length (m.out.map byt), .blk b #[i64 m.e, v, i64 m.lim] 130]).sat S w)
    (hb : Sees w S (.row 1 pv bs.length (bs.map byt))) (hr : m.fits bs.length) :
    Tri Try.prog 81 #[ptr b 0, pv] w S fun u A => u = .tuple #[] ∧ ∃ v', A = [.own 5 1 v' (m.put bs).out.length ((m.put bs).out.map byt), .blk b #[i64 (m.put bs).e, v', i64 (m.put bs).lim] 130] := by
  have hroom := hr.room
  obtain ⟨h0, h1, hr⟩ := hr
  refine Tri.enter (l := [ptr b 0, pv]) Try.func81 rfl Try.ntmps81 rfl [(0, ptr b 0), (1, pv)] (subA rfl) hS ?_
  by_cases h : m.lim - m.out.length < bs.length
  · have hm : m.put bs = m.note 2 := by simp [PW.put, h]
    rw [hm]
    repeat refine WC.seq ?_
    apply WC.drawQ Try.mixed
    · (focus ((repeat (first | exact Restr.nil | (apply Restr.keep; exact rfl; exact rfl) | (apply Restr.drop; exact rfl))); done))
    · exact rfl
    · decide +kernel
    · decide +kernel
    · repeat first
        | exact Draws.nil
        | (apply Draws.skip; exact rfl; exact rfl)
        | (apply Draws.q0; exact rfl
           (first | (apply EvW.move; exact rfl) | (apply EvW.nilPtr; exact rfl) | (apply EvW.fieldAddr0; exact rfl; exact FldC.eq) | (apply EvW.fieldAddr; exact rfl; exact FldC.eq) | (apply EvW.load; exact rfl; exact ScalC.eq; (focus ((repeat constructor); done)); exact rfl) | (apply EvW.lenL; exact rfl; exact UndC.eq) | (apply EvW.cmpT; exact rfl; exact rfl; exact rfl; omega) | (apply EvW.cmpF; exact rfl; exact rfl; exact rfl; omega) | (apply EvW.cmp; exact rfl; exact rfl; exact rfl) | (apply EvW.arN; exact rfl; exact rfl; exact rfl; refine i64_in ?_ ?_ <;> omega) | (apply EvW.ar; exact rfl; exact rfl; exact rfl) | (apply EvW.lenRow; exact rfl; exact UndC.eq; assumption) | (apply EvW.lenOwn; exact rfl; exact UndC.eq; (focus ((repeat constructor); done))) | (apply EvW.ldInt; exact rfl; exact ScalC.eq; assumption; omega) | (apply EvW.ldIntOwn; exact rfl; exact ScalC.eq; (focus ((repeat constructor); done)); omega) | (apply EvW.fldRow; exact rfl; exact FldC.eq; assumption; omega) | (apply EvW.fldOwn; exact rfl; exact FldC.eq; (focus ((repeat constructor); done)); omega)))
    apply WE.writ
    · (focus ((repeat (first | exact Writ.nil | apply Writ.some | apply Writ.none)); done))
    repeat first
      | (apply WL.q; exact rfl; exact rfl; exact rfl; (first | (apply EvW.move; exact rfl) | (apply EvW.nilPtr; exact rfl) | (apply EvW.fieldAddr0; exact rfl; exact FldC.eq) | (apply EvW.fieldAddr; exact rfl; exact FldC.eq) | (apply EvW.load; exact rfl; exact ScalC.eq; (focus ((repeat constructor); done)); exact rfl) | (apply EvW.lenL; exact rfl; exact UndC.eq) | (apply EvW.cmpT; exact rfl; exact rfl; exact rfl; omega) | (apply EvW.cmpF; exact rfl; exact rfl; exact rfl; omega) | (apply EvW.cmp; exact rfl; exact rfl; exact rfl) | (apply EvW.arN; exact rfl; exact rfl; exact rfl; refine i64_in ?_ ?_ <;> omega) | (apply EvW.ar; exact rfl; exact rfl; exact rfl) | (apply EvW.lenRow; exact rfl; exact UndC.eq; assumption) | (apply EvW.lenOwn; exact rfl; exact UndC.eq; (focus ((repeat constructor); done))) | (apply EvW.ldInt; exact rfl; exact ScalC.eq; assumption; omega) | (apply EvW.ldIntOwn; exact rfl; exact ScalC.eq; (focus ((repeat constructor); done)); omega) | (apply EvW.fldRow; exact rfl; exact FldC.eq; assumption; omega) | (apply EvW.fldOwn; exact rfl; exact FldC.eq; (focus ((repeat constructor); done)); omega)))
      | refine WC.seq ?_ | refine WC.region ?_ | refine WL.nil ?_ | refine WE.next ?_ | refine WC.skip ?_ | refine WC.exit ?_ | refine WE.pass ?_ | refine WE.hit ?_ | refine WE.miss rfl ?_ | refine WE.out ?_ | refine WC.condT rfl ?_ | refine WC.condF rfl ?_ | refine WC.ret ?_ | refine WE.passRet ?_ | refine WE.outRet ?_ | refine WL.wanted rfl rfl rfl ?_ | (apply WL.store; exact rfl; exact rfl; (first | assumption | exact rfl); exact SzC.eq; (first | assumption | exact rfl); (focus ((repeat constructor); done)))
    try refine WL.wanted rfl rfl rfl ?_
    apply WL.callT
    · exact rfl
    · exact rfl
    · exact fun w1 S1 hS1 hs1 ho1 => note_spec b 130 m.e 2 [v, i64 m.lim] _ rfl w1 S1 hS1
    · exact fun w => Try.call80 _ w
    · (focus ((repeat constructor); done))
    rintro _ _ ⟨rfl, rfl⟩
    first | refine WL.app4 ?_ | refine WL.app3 ?_ | refine WL.app2 ?_ | refine WL.app1 ?_ | refine WL.app0 ?_ | skip
    repeat first
      | (apply WL.q; exact rfl; exact rfl; exact rfl; (first | (apply EvW.move; exact rfl) | (apply EvW.nilPtr; exact rfl) | (apply EvW.fieldAddr0; exact rfl; exact FldC.eq) | (apply EvW.fieldAddr; exact rfl; exact FldC.eq) | (apply EvW.load; exact rfl; exact ScalC.eq; (focus ((repeat constructor); done)); exact rfl) | (apply EvW.lenL; exact rfl; exact UndC.eq) | (apply EvW.cmpT; exact rfl; exact rfl; exact rfl; omega) | (apply EvW.cmpF; exact rfl; exact rfl; exact rfl; omega) | (apply EvW.cmp; exact rfl; exact rfl; exact rfl) | (apply EvW.arN; exact rfl; exact rfl; exact rfl; refine i64_in ?_ ?_ <;> omega) | (apply EvW.ar; exact rfl; exact rfl; exact rfl) | (apply EvW.lenRow; exact rfl; exact UndC.eq; assumption) | (apply EvW.lenOwn; exact rfl; exact UndC.eq; (focus ((repeat constructor); done))) | (apply EvW.ldInt; exact rfl; exact ScalC.eq; assumption; omega) | (apply EvW.ldIntOwn; exact rfl; exact ScalC.eq; (focus ((repeat constructor); done)); omega) | (apply EvW.fldRow; exact rfl; exact FldC.eq; assumption; omega) | (apply EvW.fldOwn; exact rfl; exact FldC.eq; (focus ((repeat constructor); done)); omega)))
      | refine WC.seq ?_ | refine WC.region ?_ | refine WL.nil ?_ | refine WE.next ?_ | refine WC.skip ?_ | refine WC.exit ?_ | refine WE.pass ?_ | refine WE.hit ?_ | refine WE.miss rfl ?_ | refine WE.out ?_ | refine WC.condT rfl ?_ | refine WC.condF rfl ?_ | refine WC.ret ?_ | refine WE.passRet ?_ | refine WE.outRet ?_ | refine WL.wanted rfl rfl rfl ?_ | (apply WL.store; exact rfl; exact rfl; (first | assumption | exact rfl); exact SzC.eq; (first | assumption | exact rfl); (focus ((repeat constructor); done)))
    try refine WL.wanted rfl rfl rfl ?_
    apply WL.callT
    · exact rfl
    · exact rfl
    · exact fun w1 S1 hS1 hs1 ho1 => well_spec b 130 (if m.e = 0 then (2 : Int) else m.e) [v, i64 m.lim] w1 S1 hS1
    · exact fun w => Try.call64 _ w
    · (focus ((repeat constructor); done))
    rintro _ _ ⟨rfl, rfl⟩
    first | refine WL.app4 ?_ | refine WL.app3 ?_ | refine WL.app2 ?_ | refine WL.app1 ?_ | refine WL.app0 ?_ | skip
    have hne : ¬ (if m.e = 0 then (2 : Int) else m.e) = 0 := by split <;> omega
    simp only [decide_eq_false hne]
    repeat first
      | (apply WL.q; exact rfl; exact rfl; exact rfl; (first | (apply EvW.move; exact rfl) | (apply EvW.nilPtr; exact rfl) | (apply EvW.fieldAddr0; exact rfl; exact FldC.eq) | (apply EvW.fieldAddr; exact rfl; exact FldC.eq) | (apply EvW.load; exact rfl; exact ScalC.eq; (focus ((repeat constructor); done)); exact rfl) | (apply EvW.lenL; exact rfl; exact UndC.eq) | (apply EvW.cmpT; exact rfl; exact rfl; exact rfl; omega) | (apply EvW.cmpF; exact rfl; exact rfl; exact rfl; omega) | (apply EvW.cmp; exact rfl; exact rfl; exact rfl) | (apply EvW.arN; exact rfl; exact rfl; exact rfl; refine i64_in ?_ ?_ <;> omega) | (apply EvW.ar; exact rfl; exact rfl; exact rfl) | (apply EvW.lenRow; exact rfl; exact UndC.eq; assumption) | (apply EvW.lenOwn; exact rfl; exact UndC.eq; (focus ((repeat constructor); done))) | (apply EvW.ldInt; exact rfl; exact ScalC.eq; assumption; omega) | (apply EvW.ldIntOwn; exact rfl; exact ScalC.eq; (focus ((repeat constructor); done)); omega) | (apply EvW.fldRow; exact rfl; exact FldC.eq; assumption; omega) | (apply EvW.fldOwn; exact rfl; exact FldC.eq; (focus ((repeat constructor); done)); omega)))
      | refine WC.seq ?_ | refine WC.region ?_ | refine WL.nil ?_ | refine WE.next ?_ | refine WC.skip ?_ | refine WC.exit ?_ | refine WE.pass ?_ | refine WE.hit ?_ | refine WE.miss rfl ?_ | refine WE.out ?_ | refine WC.condT rfl ?_ | refine WC.condF rfl ?_ | refine WC.ret ?_ | refine WE.passRet ?_ | refine WE.outRet ?_ | refine WL.wanted rfl rfl rfl ?_ | (apply WL.store; exact rfl; exact rfl; (first | assumption | exact rfl); exact SzC.eq; (first | assumption | exact rfl); (focus ((repeat constructor); done)))
    refine WE.keep (xs := [.own 5 1 v m.out.length (m.out.map byt), .blk b #[i64 (m.note 2).e, v, i64 m.lim] 130]) (by repeat constructor) ?_
    first | refine WE.end0 rfl ?_ | refine WE.ret0 rfl ?_
    exact ⟨rfl, v, rfl⟩
  · by_cases he : m.e = 0
    · have hm : m.put bs = m.add bs := by simp [PW.put, h, he]
      rw [hm]
      repeat refine WC.seq ?_
      apply WC.drawQ Try.mixed
      · (focus ((repeat (first | exact Restr.nil | (apply Restr.keep; exact rfl; exact rfl) | (apply Restr.drop; exact rfl))); done))
      · exact rfl
      · decide +kernel
      · decide +kernel
      · repeat first
          | exact Draws.nil
          | (apply Draws.skip; exact rfl; exact rfl)
          | (apply Draws.q0; exact rfl
             (first | (apply EvW.move; exact rfl) | (apply EvW.nilPtr; exact rfl) | (apply EvW.fieldAddr0; exact rfl; exact FldC.eq) | (apply EvW.fieldAddr; exact rfl; exact FldC.eq) | (apply EvW.load; exact rfl; exact ScalC.eq; (focus ((repeat constructor); done)); exact rfl) | (apply EvW.lenL; exact rfl; exact UndC.eq) | (apply EvW.cmpT; exact rfl; exact rfl; exact rfl; omega) | (apply EvW.cmpF; exact rfl; exact rfl; exact rfl; omega) | (apply EvW.cmp; exact rfl; exact rfl; exact rfl) | (apply EvW.arN; exact rfl; exact rfl; exact rfl; refine i64_in ?_ ?_ <;> omega) | (apply EvW.ar; exact rfl; exact rfl; exact rfl) | (apply EvW.lenRow; exact rfl; exact UndC.eq; assumption) | (apply EvW.lenOwn; exact rfl; exact UndC.eq; (focus ((repeat constructor); done))) | (apply EvW.ldInt; exact rfl; exact ScalC.eq; assumption; omega) | (apply EvW.ldIntOwn; exact rfl; exact ScalC.eq; (focus ((repeat constructor); done)); omega) | (apply EvW.fldRow; exact rfl; exact FldC.eq; assumption; omega) | (apply EvW.fldOwn; exact rfl; exact FldC.eq; (focus ((repeat constructor); done)); omega)))
      apply WE.writ
      · (focus ((repeat (first | exact Writ.nil | apply Writ.some | apply Writ.none)); done))
      repeat first
        | (apply WL.q; exact rfl; exact rfl; exact rfl; (first | (apply EvW.move; exact rfl) | (apply EvW.nilPtr; exact rfl) | (apply EvW.fieldAddr0; exact rfl; exact FldC.eq) | (apply EvW.fieldAddr; exact rfl; exact FldC.eq) | (apply EvW.load; exact rfl; exact ScalC.eq; (focus ((repeat constructor); done)); exact rfl) | (apply EvW.lenL; exact rfl; exact UndC.eq) | (apply EvW.cmpT; exact rfl; exact rfl; exact rfl; omega) | (apply EvW.cmpF; exact rfl; exact rfl; exact rfl; omega) | (apply EvW.cmp; exact rfl; exact rfl; exact rfl) | (apply EvW.arN; exact rfl; exact rfl; exact rfl; refine i64_in ?_ ?_ <;> omega) | (apply EvW.ar; exact rfl; exact rfl; exact rfl) | (apply EvW.lenRow; exact rfl; exact UndC.eq; assumption) | (apply EvW.lenOwn; exact rfl; exact UndC.eq; (focus ((repeat constructor); done))) | (apply EvW.ldInt; exact rfl; exact ScalC.eq; assumption; omega) | (apply EvW.ldIntOwn; exact rfl; exact ScalC.eq; (focus ((repeat constructor); done)); omega) | (apply EvW.fldRow; exact rfl; exact FldC.eq; assumption; omega) | (apply EvW.fldOwn; exact rfl; exact FldC.eq; (focus ((repeat constructor); done)); omega)))
        | refine WC.seq ?_ | refine WC.region ?_ | refine WL.nil ?_ | refine WE.next ?_ | refine WC.skip ?_ | refine WC.exit ?_ | refine WE.pass ?_ | refine WE.hit ?_ | refine WE.miss rfl ?_ | refine WE.out ?_ | refine WC.condT rfl ?_ | refine WC.condF rfl ?_ | refine WC.ret ?_ | refine WE.passRet ?_ | refine WE.outRet ?_ | refine WL.wanted rfl rfl rfl ?_ | (apply WL.store; exact rfl; exact rfl; (first | assumption | exact rfl); exact SzC.eq; (first | assumption | exact rfl); (focus ((repeat constructor); done)))
      try refine WL.wanted rfl rfl rfl ?_
      apply WL.callT
      · exact rfl
      · exact rfl
      · exact fun w1 S1 hS1 hs1 ho1 => well_spec b 130 m.e [v, i64 m.lim] w1 S1 hS1
      · exact fun w => Try.call64 _ w
      · (focus ((repeat constructor); done))
      rintro _ _ ⟨rfl, rfl⟩
      first | refine WL.app4 ?_ | refine WL.app3 ?_ | refine WL.app2 ?_ | refine WL.app1 ?_ | refine WL.app0 ?_ | skip
      simp only [decide_eq_true he]
      repeat first
        | (apply WL.q; exact rfl; exact rfl; exact rfl; (first | (apply EvW.move; exact rfl) | (apply EvW.nilPtr; exact rfl) | (apply EvW.fieldAddr0; exact rfl; exact FldC.eq) | (apply EvW.fieldAddr; exact rfl; exact FldC.eq) | (apply EvW.load; exact rfl; exact ScalC.eq; (focus ((repeat constructor); done)); exact rfl) | (apply EvW.lenL; exact rfl; exact UndC.eq) | (apply EvW.cmpT; exact rfl; exact rfl; exact rfl; omega) | (apply EvW.cmpF; exact rfl; exact rfl; exact rfl; omega) | (apply EvW.cmp; exact rfl; exact rfl; exact rfl) | (apply EvW.arN; exact rfl; exact rfl; exact rfl; refine i64_in ?_ ?_ <;> omega) | (apply EvW.ar; exact rfl; exact rfl; exact rfl) | (apply EvW.lenRow; exact rfl; exact UndC.eq; assumption) | (apply EvW.lenOwn; exact rfl; exact UndC.eq; (focus ((repeat constructor); done))) | (apply EvW.ldInt; exact rfl; exact ScalC.eq; assumption; omega) | (apply EvW.ldIntOwn; exact rfl; exact ScalC.eq; (focus ((repeat constructor); done)); omega) | (apply EvW.fldRow; exact rfl; exact FldC.eq; assumption; omega) | (apply EvW.fldOwn; exact rfl; exact FldC.eq; (focus ((repeat constructor); done)); omega)))
        | refine WC.seq ?_ | refine WC.region ?_ | refine WL.nil ?_ | refine WE.next ?_ | refine WC.skip ?_ | refine WC.exit ?_ | refine WE.pass ?_ | refine WE.hit ?_ | refine WE.miss rfl ?_ | refine WE.out ?_ | refine WC.condT rfl ?_ | refine WC.condF rfl ?_ | refine WC.ret ?_ | refine WE.passRet ?_ | refine WE.outRet ?_ | refine WL.wanted rfl rfl rfl ?_ | (apply WL.store; exact rfl; exact rfl; (first | assumption | exact rfl); exact SzC.eq; (first | assumption | exact rfl); (focus ((repeat constructor); done)))
      try refine WL.wanted rfl rfl rfl ?_
      (apply WL.append; exact rfl; exact rfl; exact rfl; exact UndC.eq; exact SzC.eq; exact ByC.eq; exact ZvC.eq; exact rfl; (first | exact notInt_sl UndC.eq | exact notInt_st UndC.eq); exact rfl; (focus ((repeat constructor); done)))
      · exact adds_row hb all_one
      · (have := hroom h; omega)
      intro v2
      refine WL.ownEq (cs' := (m.out ++ bs).map byt) (len' := (m.out ++ bs).length) .head (by simp) (by simp) ?_
      (first | refine WL.slOwn (v := v2) (by repeat constructor) ?_ | refine WC.slOwn (v := v2) (by repeat constructor) ?_)
      intro hc_v2 ho_v2
      repeat first
        | (apply WL.q; exact rfl; exact rfl; exact rfl; (first | (apply EvW.move; exact rfl) | (apply EvW.nilPtr; exact rfl) | (apply EvW.fieldAddr0; exact rfl; exact FldC.eq) | (apply EvW.fieldAddr; exact rfl; exact FldC.eq) | (apply EvW.load; exact rfl; exact ScalC.eq; (focus ((repeat constructor); done)); exact rfl) | (apply EvW.lenL; exact rfl; exact UndC.eq) | (apply EvW.cmpT; exact rfl; exact rfl; exact rfl; omega) | (apply EvW.cmpF; exact rfl; exact rfl; exact rfl; omega) | (apply EvW.cmp; exact rfl; exact rfl; exact rfl) | (apply EvW.arN; exact rfl; exact rfl; exact rfl; refine i64_in ?_ ?_ <;> omega) | (apply EvW.ar; exact rfl; exact rfl; exact rfl) | (apply EvW.lenRow; exact rfl; exact UndC.eq; assumption) | (apply EvW.lenOwn; exact rfl; exact UndC.eq; (focus ((repeat constructor); done))) | (apply EvW.ldInt; exact rfl; exact ScalC.eq; assumption; omega) | (apply EvW.ldIntOwn; exact rfl; exact ScalC.eq; (focus ((repeat constructor); done)); omega) | (apply EvW.fldRow; exact rfl; exact FldC.eq; assumption; omega) | (apply EvW.fldOwn; exact rfl; exact FldC.eq; (focus ((repeat constructor); done)); omega)))
        | refine WC.seq ?_ | refine WC.region ?_ | refine WL.nil ?_ | refine WE.next ?_ | refine WC.skip ?_ | refine WC.exit ?_ | refine WE.pass ?_ | refine WE.hit ?_ | refine WE.miss rfl ?_ | refine WE.out ?_ | refine WC.condT rfl ?_ | refine WC.condF rfl ?_ | refine WC.ret ?_ | refine WE.passRet ?_ | refine WE.outRet ?_ | refine WL.wanted rfl rfl rfl ?_ | (apply WL.store; exact rfl; exact rfl; (first | assumption | exact rfl); exact SzC.eq; (first | assumption | exact rfl); (focus ((repeat constructor); done)))
      exact WE.end0 rfl ⟨rfl, v2, rfl⟩
    · have hm : m.put bs = m := by simp [PW.put, h, he]
      rw [hm]
      repeat refine WC.seq ?_
      apply WC.drawQ Try.mixed
      · (focus ((repeat (first | exact Restr.nil | (apply Restr.keep; exact rfl; exact rfl) | (apply Restr.drop; exact rfl))); done))
      · exact rfl
      · decide +kernel
      · decide +kernel
      · repeat first
          | exact Draws.nil
          | (apply Draws.skip; exact rfl; exact rfl)
          | (apply Draws.q0; exact rfl
             (first | (apply EvW.move; exact rfl) | (apply EvW.nilPtr; exact rfl) | (apply EvW.fieldAddr0; exact rfl; exact FldC.eq) | (apply EvW.fieldAddr; exact rfl; exact FldC.eq) | (apply EvW.load; exact rfl; exact ScalC.eq; (focus ((repeat constructor); done)); exact rfl) | (apply EvW.lenL; exact rfl; exact UndC.eq) | (apply EvW.cmpT; exact rfl; exact rfl; exact rfl; omega) | (apply EvW.cmpF; exact rfl; exact rfl; exact rfl; omega) | (apply EvW.cmp; exact rfl; exact rfl; exact rfl) | (apply EvW.arN; exact rfl; exact rfl; exact rfl; refine i64_in ?_ ?_ <;> omega) | (apply EvW.ar; exact rfl; exact rfl; exact rfl) | (apply EvW.lenRow; exact rfl; exact UndC.eq; assumption) | (apply EvW.lenOwn; exact rfl; exact UndC.eq; (focus ((repeat constructor); done))) | (apply EvW.ldInt; exact rfl; exact ScalC.eq; assumption; omega) | (apply EvW.ldIntOwn; exact rfl; exact ScalC.eq; (focus ((repeat constructor); done)); omega) | (apply EvW.fldRow; exact rfl; exact FldC.eq; assumption; omega) | (apply EvW.fldOwn; exact rfl; exact FldC.eq; (focus ((repeat constructor); done)); omega)))
      apply WE.writ
      · (focus ((repeat (first | exact Writ.nil | apply Writ.some | apply Writ.none)); done))
      repeat first
        | (apply WL.q; exact rfl; exact rfl; exact rfl; (first | (apply EvW.move; exact rfl) | (apply EvW.nilPtr; exact rfl) | (apply EvW.fieldAddr0; exact rfl; exact FldC.eq) | (apply EvW.fieldAddr; exact rfl; exact FldC.eq) | (apply EvW.load; exact rfl; exact ScalC.eq; (focus ((repeat constructor); done)); exact rfl) | (apply EvW.lenL; exact rfl; exact UndC.eq) | (apply EvW.cmpT; exact rfl; exact rfl; exact rfl; omega) | (apply EvW.cmpF; exact rfl; exact rfl; exact rfl; omega) | (apply EvW.cmp; exact rfl; exact rfl; exact rfl) | (apply EvW.arN; exact rfl; exact rfl; exact rfl; refine i64_in ?_ ?_ <;> omega) | (apply EvW.ar; exact rfl; exact rfl; exact rfl) | (apply EvW.lenRow; exact rfl; exact UndC.eq; assumption) | (apply EvW.lenOwn; exact rfl; exact UndC.eq; (focus ((repeat constructor); done))) | (apply EvW.ldInt; exact rfl; exact ScalC.eq; assumption; omega) | (apply EvW.ldIntOwn; exact rfl; exact ScalC.eq; (focus ((repeat constructor); done)); omega) | (apply EvW.fldRow; exact rfl; exact FldC.eq; assumption; omega) | (apply EvW.fldOwn; exact rfl; exact FldC.eq; (focus ((repeat constructor); done)); omega)))
        | refine WC.seq ?_ | refine WC.region ?_ | refine WL.nil ?_ | refine WE.next ?_ | refine WC.skip ?_ | refine WC.exit ?_ | refine WE.pass ?_ | refine WE.hit ?_ | refine WE.miss rfl ?_ | refine WE.out ?_ | refine WC.condT rfl ?_ | refine WC.condF rfl ?_ | refine WC.ret ?_ | refine WE.passRet ?_ | refine WE.outRet ?_ | refine WL.wanted rfl rfl rfl ?_ | (apply WL.store; exact rfl; exact rfl; (first | assumption | exact rfl); exact SzC.eq; (first | assumption | exact rfl); (focus ((repeat constructor); done)))
      try refine WL.wanted rfl rfl rfl ?_
      apply WL.callT
      · exact rfl
      · exact rfl
      · exact fun w1 S1 hS1 hs1 ho1 => well_spec b 130 m.e [v, i64 m.lim] w1 S1 hS1
      · exact fun w => Try.call64 _ w
      · (focus ((repeat constructor); done))
      rintro _ _ ⟨rfl, rfl⟩
      first | refine WL.app4 ?_ | refine WL.app3 ?_ | refine WL.app2 ?_ | refine WL.app1 ?_ | refine WL.app0 ?_ | skip
      simp only [decide_eq_false he]
      repeat first
        | (apply WL.q; exact rfl; exact rfl; exact rfl; (first | (apply EvW.move; exact rfl) | (apply EvW.nilPtr; exact rfl) | (apply EvW.fieldAddr0; exact rfl; exact FldC.eq) | (apply EvW.fieldAddr; exact rfl; exact FldC.eq) | (apply EvW.load; exact rfl; exact ScalC.eq; (focus ((repeat constructor); done)); exact rfl) | (apply EvW.lenL; exact rfl; exact UndC.eq) | (apply EvW.cmpT; exact rfl; exact rfl; exact rfl; omega) | (apply EvW.cmpF; exact rfl; exact rfl; exact rfl; omega) | (apply EvW.cmp; exact rfl; exact rfl; exact rfl) | (apply EvW.arN; exact rfl; exact rfl; exact rfl; refine i64_in ?_ ?_ <;> omega) | (apply EvW.ar; exact rfl; exact rfl; exact rfl) | (apply EvW.lenRow; exact rfl; exact UndC.eq; assumption) | (apply EvW.lenOwn; exact rfl; exact UndC.eq; (focus ((repeat constructor); done))) | (apply EvW.ldInt; exact rfl; exact ScalC.eq; assumption; omega) | (apply EvW.ldIntOwn; exact rfl; exact ScalC.eq; (focus ((repeat constructor); done)); omega) | (apply EvW.fldRow; exact rfl; exact FldC.eq; assumption; omega) | (apply EvW.fldOwn; exact rfl; exact FldC.eq; (focus ((repeat constructor); done)); omega)))
        | refine WC.seq ?_ | refine WC.region ?_ | refine WL.nil ?_ | refine WE.next ?_ | refine WC.skip ?_ | refine WC.exit ?_ | refine WE.pass ?_ | refine WE.hit ?_ | refine WE.miss rfl ?_ | refine WE.out ?_ | refine WC.condT rfl ?_ | refine WC.condF rfl ?_ | refine WC.ret ?_ | refine WE.passRet ?_ | refine WE.outRet ?_ | refine WL.wanted rfl rfl rfl ?_ | (apply WL.store; exact rfl; exact rfl; (first | assumption | exact rfl); exact SzC.eq; (first | assumption | exact rfl); (focus ((repeat constructor); done)))
      refine WE.keep (xs := [.own 5 1 v m.out.length (m.out.map byt), .blk b #[i64 m.e, v, i64 m.lim] 130]) (by repeat constructor) ?_
      first | refine WE.end0 rfl ?_ | refine WE.ret0 rfl ?_
      exact ⟨rfl, v, rfl⟩
end Go.Proofs.Ytknclcjmfgdphaa
