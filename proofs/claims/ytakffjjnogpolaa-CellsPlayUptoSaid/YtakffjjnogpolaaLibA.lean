/- A small separation logic over the model's worlds: footprints, assertions, and how a world may turn. No program in sight. -/
import Derived.WalkKit
import Derived.Orders
namespace Go.BK
open Go.RowKit

abbrev BSet := Nat → Prop

/-- An assertion on a set of blocks. -/
structure HP where
  sat : BSet → World → Prop
  loc : ∀ {S : BSet} {w w' : World}, sat S w → (∀ b, S b → w'.heap[b]? = w.heap[b]?) → sat S w'
  bnd : ∀ {S : BSet} {w : World} {b : Nat}, sat S w → S b → b < w.heap.size

def HP.emp : HP := ⟨fun S _ => ∀ b, ¬ S b, fun h _ => h, fun h hb => (h _ hb).elim⟩

def HP.star (A B : HP) : HP where
  sat S w := ∃ S1 S2 : BSet, (∀ b, S b ↔ S1 b ∨ S2 b) ∧ (∀ b, S1 b → ¬ S2 b) ∧ A.sat S1 w ∧ B.sat S2 w
  loc := fun ⟨S1, S2, hu, hd, h1, h2⟩ hk => ⟨S1, S2, hu, hd, A.loc h1 fun b hb => hk b ((hu b).2 (.inl hb)), B.loc h2 fun b hb => hk b ((hu b).2 (.inr hb))⟩
  bnd := fun ⟨_, _, hu, _, h1, h2⟩ hb => ((hu _).1 hb).elim (fun h => A.bnd h1 h) (fun h => B.bnd h2 h)

def HP.pure (φ : Prop) : HP := ⟨fun S _ => (∀ b, ¬ S b) ∧ φ, fun h _ => h, fun h hb => (h.1 _ hb).elim⟩
def HP.ex {α : Type} (f : α → HP) : HP := ⟨fun S w => ∃ x, (f x).sat S w, fun ⟨x, h⟩ hk => ⟨x, (f x).loc h hk⟩, fun ⟨x, h⟩ hb => (f x).bnd h hb⟩

/-- Block b is a row of cells c of element type T, none of which is frozen. -/
def blkAt (b : Nat) (c : Array Value) (T : TypeId) (w : World) : Prop :=
  ∃ lo hi, w.heap[b]? = some (.cells c T (lo, hi)) ∧ ∀ o, o < c.size → ¬ (lo ≤ o ∧ o < hi)

theorem lt_of_get {α : Type} {a : Array α} {b : Nat} {x : α} (h : a[b]? = some x) : b < a.size := by
  rw [Array.getElem?_eq_some_iff] at h; exact h.1

def HP.blk (b : Nat) (c : Array Value) (T : TypeId) : HP where
  sat S w := (∀ x, S x ↔ x = b) ∧ blkAt b c T w
  loc := fun ⟨h1, lo, hi, h2, h3⟩ hk => ⟨h1, lo, hi, by rw [hk b ((h1 b).2 rfl)]; exact h2, h3⟩
  bnd := fun {_ _ x} ⟨h1, _, _, h2, _⟩ hb => by rw [(h1 x).1 hb]; exact lt_of_get h2

/-- Block b is this object. -/
def HP.obj (b : Nat) (o : Obj) : HP where
  sat S w := (∀ x, S x ↔ x = b) ∧ w.heap[b]? = some o
  loc := fun ⟨h1, h2⟩ hk => ⟨h1, by rw [hk b ((h1 b).2 rfl)]; exact h2⟩
  bnd := fun {_ _ x} ⟨h1, h2⟩ hb => by rw [(h1 x).1 hb]; exact lt_of_get h2

def sepL : List HP → HP
  | [] => .emp
  | A :: r => .star A (sepL r)

theorem HP.sat_congr {A : HP} {S S' : BSet} {w : World} (h : A.sat S w) (e : ∀ b, S b ↔ S' b) : A.sat S' w := by
  have : S = S' := funext fun b => propext (e b)
  rw [← this]; exact h

theorem star_comm {A B : HP} {S : BSet} {w : World} (h : (HP.star A B).sat S w) : (HP.star B A).sat S w := by
  obtain ⟨S1, S2, hu, hd, h1, h2⟩ := h
  exact ⟨S2, S1, fun b => (hu b).trans Or.comm, fun b h2 h1 => hd b h1 h2, h2, h1⟩
theorem star_assoc {A B D : HP} {S : BSet} {w : World} (h : (HP.star (HP.star A B) D).sat S w) : (HP.star A (HP.star B D)).sat S w := by
  obtain ⟨S1, S2, hu, hd, ⟨S3, S4, hu', hd', h1, h2⟩, h3⟩ := h
  refine ⟨S3, fun b => S4 b ∨ S2 b, fun b => ?_, fun b h3 h => ?_, h1, S4, S2, fun b => Iff.rfl, fun b h4 h2 => hd b ((hu' b).2 (.inr h4)) h2, h2, h3⟩
  · rw [hu, hu']; exact or_assoc
  · rcases h with h | h
    · exact hd' b h3 h
    · exact hd b ((hu' b).2 (.inl h3)) h
theorem star_assoc' {A B D : HP} {S : BSet} {w : World} (h : (HP.star A (HP.star B D)).sat S w) : (HP.star (HP.star A B) D).sat S w :=
  star_comm (star_assoc (star_comm (star_assoc (star_comm h))))
theorem star_mono {A B A' B' : HP} {S : BSet} {w w' : World} (h : (HP.star A B).sat S w) (ha : ∀ S, A.sat S w → A'.sat S w') (hb : ∀ S, B.sat S w → B'.sat S w') : (HP.star A' B').sat S w' := by
  obtain ⟨S1, S2, hu, hd, h1, h2⟩ := h
  exact ⟨S1, S2, hu, hd, ha _ h1, hb _ h2⟩
theorem star_swap {A B D : HP} {S : BSet} {w : World} (h : (HP.star A (HP.star B D)).sat S w) : (HP.star B (HP.star A D)).sat S w :=
  star_assoc (star_mono (star_assoc' h) (fun _ h => star_comm h) fun _ h => h)
theorem star_emp {A : HP} {S : BSet} {w : World} (h : A.sat S w) : (HP.star A .emp).sat S w :=
  ⟨S, fun _ => False, fun b => by simp, fun _ _ h => h, h, fun _ h => h⟩
theorem star_emp' {A : HP} {S : BSet} {w : World} (h : (HP.star A .emp).sat S w) : A.sat S w := by
  obtain ⟨S1, S2, hu, _, h1, h2⟩ := h
  exact HP.sat_congr h1 fun b => by rw [hu]; simp [h2 b]

/-- x is one of the list; r is what is left. -/
inductive Take (x : HP) : List HP → List HP → Prop
  | head {r : List HP} : Take x (x :: r) r
  | tail {y : HP} {r r' : List HP} : Take x r r' → Take x (y :: r) (y :: r')
theorem Take.star {x : HP} {A r : List HP} (t : Take x A r) {S : BSet} {w : World} (h : (sepL A).sat S w) : (HP.star x (sepL r)).sat S w := by
  induction t generalizing S with
  | head => exact h
  | tail _ ih => exact star_swap (star_mono h (fun _ h => h) fun _ h => ih h)
theorem Take.unstar {x : HP} {A r : List HP} (t : Take x A r) {S : BSet} {w : World} (h : (HP.star x (sepL r)).sat S w) : (sepL A).sat S w := by
  induction t generalizing S with
  | head => exact h
  | tail _ ih => exact star_mono (star_swap h) (fun _ h => h) fun _ h => ih h
inductive TakeL : List HP → List HP → List HP → Prop
  | nil {A : List HP} : TakeL [] A A
  | cons {x : HP} {xs A A' A'' : List HP} : Take x A A' → TakeL xs A' A'' → TakeL (x :: xs) A A''
theorem TakeL.star {xs A r : List HP} (t : TakeL xs A r) {S : BSet} {w : World} (h : (sepL A).sat S w) : (HP.star (sepL xs) (sepL r)).sat S w := by
  induction t generalizing S with
  | nil => exact star_comm (star_emp h)
  | cons t _ ih => exact star_assoc' (star_mono (t.star h) (fun _ h => h) fun _ h => ih h)
theorem sepL_append {A B : List HP} {S : BSet} {w : World} (h : (HP.star (sepL A) (sepL B)).sat S w) : (sepL (A ++ B)).sat S w := by
  induction A generalizing S with
  | nil => exact star_emp' (star_comm h)
  | cons x A ih => exact star_mono (star_assoc h) (fun _ h => h) fun _ h => ih h
theorem sepL_unappend {A B : List HP} {S : BSet} {w : World} (h : (sepL (A ++ B)).sat S w) : (HP.star (sepL A) (sepL B)).sat S w := by
  induction A generalizing S with
  | nil => exact star_comm (star_emp h)
  | cons x A ih => exact star_assoc' (star_mono h (fun _ h => h) fun _ h => ih h)
theorem TakeL.unstar {xs A r : List HP} (t : TakeL xs A r) {S : BSet} {w : World} (h : (HP.star (sepL xs) (sepL r)).sat S w) : (sepL A).sat S w := by
  induction t generalizing S with
  | nil => exact star_emp' (star_comm h)
  | cons t _ ih => exact t.unstar (star_mono (star_assoc h) (fun _ h => h) fun _ h => ih h)

/-- Old memory outside S is as it was; the streams too; nothing has gone. -/
structure Ext (S : BSet) (w w' : World) : Prop where
  os : w'.os = w.os
  tape : w'.tape = w.tape
  output : w'.output = w.output
  size : w.heap.size ≤ w'.heap.size
  keep : ∀ b, b < w.heap.size → ¬ S b → w'.heap[b]? = w.heap[b]?
theorem Ext.refl (S : BSet) (w : World) : Ext S w w := ⟨rfl, rfl, rfl, Nat.le_refl _, fun _ _ _ => rfl⟩
/-- A turn inside what is owned is a turn of the whole. -/
theorem Ext.step {S0 S : BSet} {w0 w w' : World} (h : Ext S0 w0 w) (k : Ext S w w') (hs : ∀ b, S b → S0 b ∨ w0.heap.size ≤ b) : Ext S0 w0 w' :=
  ⟨k.os.trans h.os, k.tape.trans h.tape, k.output.trans h.output, Nat.le_trans h.size k.size, fun b hb hn =>
    (k.keep b (Nat.lt_of_lt_of_le hb h.size) fun hS => (hs b hS).elim hn (fun h => by omega)).trans (h.keep b hb hn)⟩
theorem Ext.below {w w' : World} (h : Ext (fun _ => False) w w') : Below w.heap.size w w' :=
  ⟨h.os, h.tape, h.output, h.size, fun b hb => h.keep b hb (fun h => h)⟩

/-- The state of a call that began in w0 and was handed the blocks S0. -/
def St (w0 : World) (S0 : BSet) (A : List HP) (w : World) : Prop :=
  ∃ S : BSet, (sepL A).sat S w ∧ Ext S0 w0 w ∧ ∀ b, S b → S0 b ∨ w0.heap.size ≤ b
theorem St.start {w0 : World} {S0 : BSet} {A : List HP} (h : (sepL A).sat S0 w0) : St w0 S0 A w0 := ⟨S0, h, .refl _ _, fun _ h => .inl h⟩
theorem St.bare (w : World) : St w (fun _ => False) [] w := .start (fun _ h => h)

/-- Phi is seen outside of what is owned: it stays, whatever the call does. -/
def Sees (w : World) (S : BSet) (A : HP) : Prop := ∃ R : BSet, A.sat R w ∧ ∀ b, R b → ¬ S b
theorem Sees.at {w0 w : World} {S0 : BSet} {A : HP} {L : List HP} (h : Sees w0 S0 A) (st : St w0 S0 L w) : ∃ R, A.sat R w := by
  obtain ⟨R, h1, h2⟩ := h
  obtain ⟨S, _, hx, _⟩ := st
  exact ⟨R, A.loc h1 fun b hb => hx.keep b (A.bnd h1 hb) (h2 b hb)⟩
theorem Sees.down {w0 w : World} {S0 S1 S : BSet} {A : HP} (h : Sees w0 S0 A) (hx : Ext S0 w0 w) (hs : ∀ b, S b → S0 b ∨ w0.heap.size ≤ b) (hsub : ∀ b, S1 b → S b) : Sees w S1 A := by
  obtain ⟨R, h1, h2⟩ := h
  refine ⟨R, A.loc h1 fun b hb => hx.keep b (A.bnd h1 hb) (h2 b hb), fun b hb h => ?_⟩
  rcases hs b (hsub b h) with h | h
  · exact h2 b hb h
  · have := A.bnd h1 hb; omega

section steps
variable {w0 : World} {S0 : BSet} {A : List HP} {w w' : World}

theorem St.turn (h : St w0 S0 A w) {A' : List HP} (hx : ∀ S, (sepL A).sat S w → ∃ S', (sepL A').sat S' w' ∧ Ext S w w' ∧ ∀ b, S' b → S b ∨ w.heap.size ≤ b) : St w0 S0 A' w' := by
  obtain ⟨S, h1, h2, h3⟩ := h
  obtain ⟨S', h4, h5, h6⟩ := hx S h1
  refine ⟨S', h4, h2.step h5 h3, fun b hb => ?_⟩
  rcases h6 b hb with h | h
  · exact h3 b h
  · exact .inr (Nat.le_trans h2.size h)
theorem St.same (h : St w0 S0 A w) (hh : w'.heap = w.heap) (ho : w'.os = w.os) (ht : w'.tape = w.tape) (hu : w'.output = w.output) : St w0 S0 A w' :=
  h.turn fun S hs => ⟨S, (sepL A).loc hs fun b _ => by rw [hh], ⟨ho, ht, hu, by rw [hh]; exact Nat.le_refl _, fun b _ _ => by rw [hh]⟩, fun b h => .inl h⟩
theorem St.drew (h : St w0 S0 A w) (n : Nat) : St w0 S0 A { w with drawn := n } := h.same rfl rfl rfl rfl
theorem St.mono (h : St w0 S0 A w) {A' : List HP} (hx : ∀ S w, (sepL A).sat S w → (sepL A').sat S w) : St w0 S0 A' w :=
  h.turn fun S hs => ⟨S, hx S w hs, .refl _ _, fun _ h => .inl h⟩
theorem St.drop {x : HP} {r : List HP} (h : St w0 S0 A w) (t : Take x A r) : St w0 S0 r w :=
  h.turn fun S hs => by
    obtain ⟨S1, S2, hu, _, _, h2⟩ := t.star hs
    exact ⟨S2, h2, .refl _ _, fun b hb => .inl ((hu b).2 (.inr hb))⟩
theorem St.take {x : HP} {r : List HP} (h : St w0 S0 A w) (t : Take x A r) : ∃ S, x.sat S w := by
  obtain ⟨S, h1, _, _⟩ := h
  obtain ⟨S1, S2, _, _, h1, _⟩ := t.star h1
  exact ⟨S1, h1⟩
theorem St.blk {b : Nat} {c : Array Value} {T : TypeId} {r : List HP} (h : St w0 S0 A w) (t : Take (.blk b c T) A r) : blkAt b c T w := by
  obtain ⟨S, h⟩ := h.take t; exact h.2

theorem blkAt.cell {b o : Nat} {c : Array Value} {T : TypeId} {v : Value} (h : blkAt b c T w) (hc : c[o]? = some v) : w.cell? ⟨b, o, none⟩ = some v := by
  obtain ⟨lo, hi, h, _⟩ := h
  simp [World.cell?, h, hc]
theorem blkAt.free {b o : Nat} {c : Array Value} {T : TypeId} (h : blkAt b c T w) (hc : o < c.size) : w.frozen? ⟨b, o, none⟩ = false := by
  obtain ⟨lo, hi, h, hf⟩ := h
  have := hf o hc
  simp only [World.frozen?, h]
  simpa using this

/-- The cells of a block turn. -/
inductive Upd (b : Nat) (T : TypeId) (c c' : Array Value) : List HP → List HP → Prop
  | head {r : List HP} : Upd b T c c' (.blk b c T :: r) (.blk b c' T :: r)
  | tail {y : HP} {r r' : List HP} : Upd b T c c' r r' → Upd b T c c' (y :: r) (y :: r')
theorem Upd.take {b : Nat} {T : TypeId} {c c' : Array Value} {A A' : List HP} (u : Upd b T c c' A A') : ∃ r, Take (.blk b c T) A r ∧ Take (.blk b c' T) A' r := by
  induction u with
  | head => exact ⟨_, .head, .head⟩
  | tail _ ih => obtain ⟨r, h1, h2⟩ := ih; exact ⟨_, .tail h1, .tail h2⟩

theorem St.write {b : Nat} {T : TypeId} {c c' : Array Value} {A' : List HP} (h : St w0 S0 A w) (u : Upd b T c c' A A')
    (hw : ∀ lo hi, w.heap[b]? = some (.cells c T (lo, hi)) → (∀ o, o < c.size → ¬ (lo ≤ o ∧ o < hi)) → w' = { w with heap := w.heap.setIfInBounds b (.cells c' T (lo, hi)) }) (hsz : c'.size = c.size) : St w0 S0 A' w' := by
  obtain ⟨r, t1, t2⟩ := u.take
  refine h.turn fun S hs => ?_
  obtain ⟨S1, S2, hu, hd, ⟨h1, lo, hi, h2, h3⟩, h4⟩ := t1.star hs
  have hb := lt_of_get h2
  rw [hw lo hi h2 h3]
  refine ⟨S, t2.unstar ⟨S1, S2, hu, hd, ⟨h1, lo, hi, by simp [Array.getElem?_setIfInBounds_self_of_lt hb], by rw [hsz]; exact h3⟩, (sepL r).loc h4 fun x hx => ?_⟩, ⟨rfl, rfl, rfl, by simp, fun x _ hx => ?_⟩, fun _ h => .inl h⟩
  · have hne : b ≠ x := fun e => hd x ((h1 x).2 e.symm) hx
    simp [Array.getElem?_setIfInBounds_ne hne]
  · have hne : b ≠ x := fun e => hx ((hu x).2 (.inl ((h1 x).2 e.symm)))
    simp [Array.getElem?_setIfInBounds_ne hne]

theorem St.setCell {b o : Nat} {T : TypeId} {c : Array Value} {A' : List HP} {v : Value} (h : St w0 S0 A w) (u : Upd b T c (c.setIfInBounds o v) A A') : St w0 S0 A' (w.setCell ⟨b, o, none⟩ v) :=
  h.write u (fun lo hi hh _ => by
    have hb := lt_of_get hh
    have hg : w.heap[b] = .cells c T (lo, hi) := by rw [Array.getElem?_eq_getElem hb] at hh; exact Option.some.inj hh
    simp only [World.setCell, Option.isSome_none, Bool.false_eq_true, ↓reduceIte]
    congr 1
    apply Array.ext_getElem?
    intro i
    rw [Array.getElem?_modify, Array.getElem?_setIfInBounds]
    by_cases e : b = i
    · subst e; simp [hb, hg]
    · simp [e]) (by simp)

/-- A new block. -/
theorem St.new (h : St w0 S0 A w) (o : Obj) {x : HP} (hx : ∀ w1 : World, w1.heap[w.heap.size]? = some o → x.sat (fun b => b = w.heap.size) w1) : St w0 S0 (x :: A) (w.alloc o) := by
  refine h.turn fun S hs => ?_
  have hk : ∀ b, b < w.heap.size → (w.alloc o).heap[b]? = w.heap[b]? := fun b hb => Below.heap_alloc w o b hb
  refine ⟨fun b => b = w.heap.size ∨ S b, ⟨_, S, fun b => Iff.rfl, fun b e hb => ?_, hx _ (show (w.heap.push o)[w.heap.size]? = some o by simp), (sepL A).loc hs fun b hb => hk b ((sepL A).bnd hs hb)⟩,
    ⟨rfl, rfl, rfl, (show w.heap.size ≤ (w.heap.push o).size by simp), fun b hb _ => hk b hb⟩, fun b hb => hb.elim (fun e => .inr (by omega)) .inl⟩
  have := (sepL A).bnd hs hb
  omega
theorem St.newBlk (h : St w0 S0 A w) (c : Array Value) (T : TypeId) : St w0 S0 (.blk w.heap.size c T :: A) (w.alloc (.cells c T)) :=
  h.new _ fun _ h1 => ⟨fun _ => Iff.rfl, 0, 0, h1, fun o _ h => by omega⟩
theorem St.newObj (h : St w0 S0 A w) (o : Obj) : St w0 S0 (.obj w.heap.size o :: A) (w.alloc o) :=
  h.new _ fun _ h1 => ⟨fun _ => Iff.rfl, h1⟩
end steps
end Go.BK
