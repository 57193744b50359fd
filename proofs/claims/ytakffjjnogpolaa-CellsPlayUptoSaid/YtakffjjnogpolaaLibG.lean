/- A region whose order is open: whatever order its edges allow, it comes to one end. No program in sight. -/
import Derived.Test.YtakffjjnogpolaaLibF
namespace Go.BK
open Go.RowKit

/-- The operation answers v, and turns what is owned from A to A'. -/
structure EffW (P : Program) (w0 : World) (S0 : BSet) (n : Nat) (F : Fr) (A A' : List HP) (o : Oper) (v : Value) : Prop where
  go : ∀ (Q : Exit → Act → World → Prop) (K : Act → World → Prop) (a : Act) (w : World), Agr n F a → St w0 S0 A w → (∀ w', St w0 S0 A' w' → K (a.put o.dst v) w') → o.wp P a w K Q
theorem EvW.eff {P : Program} {w0 : World} {S0 : BSet} {n : Nat} {F : Fr} {A : List HP} {o : Oper} {v : Value} (h : EvW P w0 S0 n F A o v) : EffW P w0 S0 n F A A o v := ⟨h.go⟩

abbrev Done := List (Oper × Value)
def Done.frO (d : Option (Oper × Value)) : Fr := match d with
  | some (o, v) => match o.dst with
    | some t => [(t, v)]
    | none => []
  | none => []
/-- What an operation may lean on: what stood before the region, and what those gave that come ahead of it in every order. -/
def preF (F0 : Fr) (done : Done) : List Edge → Fr
  | [] => F0
  | e :: r => Done.frO done[e.on]? ++ preF F0 done r
def allF (F0 : Fr) : Done → Fr
  | [] => F0
  | d :: r => Done.frO (some d) ++ allF F0 r
/-- Is a guarded operation wanted? -/
def wants (done : Done) : Option (Nat × Bool) → Option Bool
  | none => some true
  | some (j, b) => match done[j]? with
    | some (o, .bool c) => if o.dst.isSome then some (c == b) else none
    | _ => none

/-- Does i come ahead of j in every order? -/
def ahead (ops : List Oper) : Nat → Nat → Nat → Bool
  | 0, _, _ => false
  | f + 1, i, j => match ops[j]? with
    | some o => o.after.toList.any fun e => Region.binds .any e && (e.on == i || ahead ops f i e.on)
    | none => false

/-- What binds a step in any order. -/
def aft (o : Oper) : List Edge := o.after.toList.filter fun e => Region.binds .any e
theorem mem_aft {o : Oper} {e : Edge} : e ∈ aft o ↔ e ∈ o.after.toList ∧ Region.binds .any e = true := by simp [aft]
/-- The edges that bind point back; a guard is among them. -/
def edgesOk (i : Nat) (o : Oper) : Bool := (o.guard.all fun g => (aft o).any fun e => e.on == g.1) && (aft o).all fun e => Nat.blt e.on i
def edgesAll : Nat → List Oper → Bool
  | _, [] => true
  | i, o :: r => edgesOk i o && edgesAll (i + 1) r
/-- Between which steps that turn memory a quiet one lies, in every order. -/
def rangeOk (ops : List Oper) (eff : List Nat) (i lo hi : Nat) : Bool :=
  (lo == 0 || (eff[lo - 1]?).any fun e => ahead ops ops.length e i) && (hi == eff.length || (eff[hi]?).any fun e => ahead ops ops.length i e) && !eff.contains i
/-- What stands at a place of a list that is told backwards. -/
def nthR : Done → Nat → Nat → Option (Oper × Value)
  | [], _, _ => none
  | _ :: _, 0, _ => none
  | x :: r, n + 1, i => bif Nat.beq n i then some x else nthR r n i
def preR (F0 : Fr) (done : Done) (n : Nat) : List Edge → Fr
  | [] => F0
  | e :: r => Done.frO (nthR done n e.on) ++ preR F0 done n r
def wantR (done : Done) (n : Nat) : Option (Nat × Bool) → Option Bool
  | none => some true
  | some (j, b) => match nthR done n j with
    | some (o, .bool c) => if o.dst.isSome then some (c == b) else none
    | _ => none
theorem nthR_eq (done : Done) (i : Nat) : nthR done done.length i = done.reverse[i]? := by
  induction done with
  | nil => simp [nthR]
  | cons x r ih =>
    simp only [List.length_cons, nthR, List.reverse_cons]
    by_cases e : r.length = i
    · subst e; simp
    · rw [beqF e, cond_false, ih]
      by_cases h : i < r.length
      · rw [List.getElem?_append_left (by simpa using h)]
      · rw [List.getElem?_eq_none (by simp; omega), List.getElem?_eq_none (by simp; omega)]
theorem preR_eq (F0 : Fr) (done : Done) (es : List Edge) : preR F0 done done.length es = preF F0 done.reverse es := by
  induction es with
  | nil => rfl
  | cons e r ih => simp only [preR, preF, nthR_eq, ih]
theorem wantR_eq (done : Done) (g : Option (Nat × Bool)) : wantR done done.length g = wants done.reverse g := by
  cases g with
  | none => rfl
  | some g => simp only [wantR, wants, nthR_eq]

section
variable (P : Program) (w0 : World) (S0 : BSet) (n : Nat) (ops : List Oper) (F0 : Fr) (Av : Nat → List HP) (eff : List Nat)
/-- The steps of a region, told one by one in the order of the text; what is done stands backwards. -/
inductive Draws : Nat → Done → List Oper → Done → Prop
  | nil {i : Nat} {done : Done} : Draws i done [] done
  | quiet {i : Nat} {done all : Done} {o : Oper} (v : Value) {rest : List Oper} (lo hi : Nat) (hw : wantR done i o.guard = some true) (hr : rangeOk ops eff i lo hi = true)
      (h : ∀ m, lo ≤ m → m ≤ hi → EvW P w0 S0 n (preR F0 done i (aft o)) (Av m) o v) (k : Draws (i + 1) ((o, v) :: done) rest all) : Draws i done (o :: rest) all
  | skip {i : Nat} {done all : Done} {o : Oper} {rest : List Oper} (hw : wantR done i o.guard = some false) (hne : eff.contains i = false)
      (k : Draws (i + 1) ((o, undef) :: done) rest all) : Draws i done (o :: rest) all
  | eff {i : Nat} {done all : Done} {o : Oper} (v : Value) {rest : List Oper} (j : Nat) (hj : eff[j]? = some i) (hw : wantR done i o.guard = some true)
      (h : EffW P w0 S0 n (preR F0 done i (aft o)) (Av j) (Av (j + 1)) o v) (k : Draws (i + 1) ((o, v) :: done) rest all) : Draws i done (o :: rest) all
end

section
variable {P : Program} {w0 : World} {S0 : BSet} {n : Nat} {ops : List Oper} {F0 : Fr} {Av : Nat → List HP} {eff : List Nat}
/-- One step, at its place. -/
def StepOk (P : Program) (w0 : World) (S0 : BSet) (n : Nat) (ops : List Oper) (F0 : Fr) (Av : Nat → List HP) (eff : List Nat) (all : Done) (i : Nat) (o : Oper) (v : Value) : Prop :=
  edgesOk i o = true ∧
  ((wants all o.guard = some true ∧ eff.contains i = false ∧ ∃ lo hi, (lo == 0 || (eff[lo - 1]?).any fun e => ahead ops ops.length e i) = true ∧ (hi == eff.length || (eff[hi]?).any fun e => ahead ops ops.length i e) = true ∧ ∀ m, lo ≤ m → m ≤ hi → EvW P w0 S0 n (preF F0 all (aft o)) (Av m) o v) ∨
   (wants all o.guard = some false ∧ eff.contains i = false ∧ v = undef) ∨
   (wants all o.guard = some true ∧ ∃ j, eff[j]? = some i ∧ EffW P w0 S0 n (preF F0 all (aft o)) (Av j) (Av (j + 1)) o v))

theorem wants_mono {done more : Done} {g : Option (Nat × Bool)} {b : Bool} (h : wants done g = some b) : wants (done ++ more) g = some b := by
  cases g with
  | none => exact h
  | some g =>
    obtain ⟨j, c⟩ := g
    simp only [wants] at h ⊢
    cases hd : done[j]? with
    | none => simp [hd] at h
    | some d =>
      have : (done ++ more)[j]? = some d := by rw [List.getElem?_append_left (List.getElem?_eq_some_iff.1 hd).1]; exact hd
      rw [this]; rw [hd] at h; exact h
theorem preF_mono {done more : Done} {es : List Edge} (hlt : ∀ e ∈ es, e.on < done.length) : preF F0 (done ++ more) es = preF F0 done es := by
  induction es with
  | nil => rfl
  | cons e r ih =>
    simp only [preF]
    rw [ih fun e he => hlt e (List.mem_cons_of_mem _ he), List.getElem?_append_left (hlt e (List.mem_cons_self ..))]
theorem edgesOk_lt {i : Nat} {o : Oper} (h : edgesOk i o = true) : ∀ e ∈ aft o, e.on < i ∧ Region.binds .any e = true := by
  intro e he
  simp only [edgesOk, Bool.and_eq_true, List.all_eq_true] at h
  have := h.2 e he
  exact ⟨by simpa using this, (mem_aft.1 he).2⟩
theorem Draws.ok {i0 : Nat} {done all : Done} {rest : List Oper} (h : Draws P w0 S0 n ops F0 Av eff i0 done rest all) : i0 = done.length → edgesAll i0 rest = true →
    ∃ more : Done, all.reverse = done.reverse ++ more ∧ more.map (·.1) = rest ∧ ∀ i o v, more[i]? = some (o, v) → StepOk P w0 S0 n ops F0 Av eff all.reverse (done.length + i) o v := by
  have key : ∀ {done all : Done} {o : Oper} {v : Value} {rest : List Oper}, (∃ more : Done, all.reverse = ((o, v) :: done).reverse ++ more ∧ more.map (·.1) = rest ∧ ∀ i o' v', more[i]? = some (o', v') → StepOk P w0 S0 n ops F0 Av eff all.reverse (((o, v) :: done).length + i) o' v') →
      (∀ more, all.reverse = done.reverse ++ more → StepOk P w0 S0 n ops F0 Av eff all.reverse done.length o v) → ∃ more : Done, all.reverse = done.reverse ++ more ∧ more.map (·.1) = o :: rest ∧ ∀ i o' v', more[i]? = some (o', v') → StepOk P w0 S0 n ops F0 Av eff all.reverse (done.length + i) o' v' := by
    intro done all o v rest ⟨more, h1, h2, h3⟩ h4
    have h1' : all.reverse = done.reverse ++ ((o, v) :: more) := by rw [h1]; simp
    refine ⟨(o, v) :: more, h1', by simp [h2], fun i o' v' hi => ?_⟩
    cases i with
    | zero => simp at hi; obtain ⟨rfl, rfl⟩ := hi; exact h4 _ h1'
    | succ i =>
      have := h3 i o' v' (by simpa using hi)
      rw [show done.length + (i + 1) = ((o, v) :: done).length + i from by simp; omega]
      exact this
  induction h with
  | nil => intro _ _; exact ⟨[], by simp, rfl, fun i o v h => by simp at h⟩
  | @quiet i0 done all o v rest lo hi hw hr h _ ih =>
    intro hi0 he
    simp only [edgesAll, Bool.and_eq_true] at he
    subst hi0
    have hg := he.1
    simp only [rangeOk, Bool.and_eq_true, Bool.not_eq_true'] at hr
    refine key (ih (by simp) he.2) fun more hm => ⟨hg, .inl ⟨?_, hr.2, lo, hi, hr.1.1, hr.1.2, ?_⟩⟩
    · rw [hm]; rw [wantR_eq] at hw; exact wants_mono hw
    · rw [hm, preF_mono fun e he => by simpa using (edgesOk_lt hg e he).1]; rw [preR_eq] at h; exact h
  | @skip i0 done all o rest hw hne _ ih =>
    intro hi0 he
    simp only [edgesAll, Bool.and_eq_true] at he
    subst hi0
    refine key (ih (by simp) he.2) fun more hm => ⟨he.1, .inr (.inl ⟨?_, hne, rfl⟩)⟩
    rw [hm]; rw [wantR_eq] at hw; exact wants_mono hw
  | @eff i0 done all o v rest j hj hw h _ ih =>
    intro hi0 he
    simp only [edgesAll, Bool.and_eq_true] at he
    subst hi0
    have hg := he.1
    refine key (ih (by simp) he.2) fun more hm => ⟨hg, .inr (.inr ⟨?_, j, hj, ?_⟩)⟩
    · rw [hm]; rw [wantR_eq] at hw; exact wants_mono hw
    · rw [hm, preF_mono fun e he => by simpa using (edgesOk_lt hg e he).1]; rw [preR_eq] at h; exact h

/-- No slot is written twice, and none that is leant on from before. -/
def slotsOk (F0 : Fr) : List Oper → List Nat → Bool
  | [], _ => true
  | o :: r, seen => match o.dst with
    | some d => !seen.contains d && (F0.get d).isNone && slotsOk F0 r (d :: seen)
    | none => slotsOk F0 r seen
theorem slotsOk_get {l : List Oper} {seen : List Nat} (h : slotsOk F0 l seen = true) : (∀ (i : Nat) (o : Oper) (d : Nat), l[i]? = some o → o.dst = some d → seen.contains d = false ∧ F0.get d = none) ∧ ∀ (i j : Nat) (o o' : Oper) (d : Nat), l[i]? = some o → l[j]? = some o' → o.dst = some d → o'.dst = some d → i = j := by
  induction l generalizing seen with
  | nil => exact ⟨fun i o d h => by simp at h, fun i j o o' d h => by simp at h⟩
  | cons o r ih =>
    simp only [slotsOk] at h
    cases hd : o.dst with
    | none =>
      rw [hd] at h
      obtain ⟨h1, h2⟩ := ih h
      refine ⟨fun i o' d hi ho => ?_, fun i j o1 o2 d hi hj h3 h4 => ?_⟩
      · cases i with
        | zero => simp at hi; subst hi; rw [hd] at ho; cases ho
        | succ i => exact h1 i o' d (by simpa using hi) ho
      · cases i with
        | zero => simp at hi; subst hi; rw [hd] at h3; cases h3
        | succ i => cases j with
          | zero => simp at hj; subst hj; rw [hd] at h4; cases h4
          | succ j => rw [h2 i j o1 o2 d (by simpa using hi) (by simpa using hj) h3 h4]
    | some d0 =>
      rw [hd] at h
      simp only [Bool.and_eq_true, Bool.not_eq_true', Option.isNone_iff_eq_none] at h
      obtain ⟨⟨h0, h0'⟩, h⟩ := h
      obtain ⟨h1, h2⟩ := ih h
      refine ⟨fun i o' d hi ho => ?_, fun i j o1 o2 d hi hj h3 h4 => ?_⟩
      · cases i with
        | zero => simp at hi; subst hi; rw [hd] at ho; cases ho; exact ⟨h0, h0'⟩
        | succ i => have := h1 i o' d (by simpa using hi) ho; simp at this ⊢; exact ⟨this.1.2, this.2⟩
      · cases i with
        | zero =>
          simp at hi; subst hi; rw [hd] at h3; cases h3
          cases j with
          | zero => rfl
          | succ j => have := h1 j o2 d0 (by simpa using hj) h4; simp at this
        | succ i => cases j with
          | zero => simp at hj; subst hj; rw [hd] at h4; cases h4; have := h1 i o1 d0 (by simpa using hi) h3; simp at this
          | succ j => rw [h2 i j o1 o2 d (by simpa using hi) (by simpa using hj) h3 h4]
def chainOk (ops : List Oper) : List Nat → Bool
  | a :: b :: r => ahead ops ops.length a b && Nat.blt a b && chainOk ops (b :: r)
  | _ => true

theorem ahead_in {L : Nat → Prop} (hd : ∀ i o, L i → ops[i]? = some o → ∀ e ∈ aft o, L e.on) : ∀ (f i j : Nat), ahead ops f i j = true → (∀ o, ops[j]? = some o → ∀ e ∈ aft o, L e.on) → L i := by
  intro f
  induction f with
  | zero => intro i j h _; simp [ahead] at h
  | succ f ih =>
    intro i j h hp
    simp only [ahead] at h
    cases ho : ops[j]? with
    | none => simp [ho] at h
    | some o =>
      simp only [ho, List.any_eq_true, Bool.and_eq_true, Bool.or_eq_true, beq_iff_eq] at h
      obtain ⟨e, he, hbd, h⟩ := h
      have he := mem_aft.2 ⟨he, hbd⟩
      rcases h with h | h
      · rw [← h]; exact hp o ho e he
      · exact ih i e.on h fun o' ho' => hd e.on o' (hp o ho e he) ho'
theorem preF_get {all : Done} {es : List Edge} {t : Nat} {u : Value} (h : (preF F0 all es).get t = some u) : F0.get t = some u ∨ ∃ e ∈ es, ∃ (o : Oper) (d : Nat), all[e.on]? = some (o, u) ∧ o.dst = some d ∧ d = t := by
  induction es with
  | nil => exact .inl h
  | cons e r ih =>
    simp only [preF] at h
    have rc : (preF F0 all r).get t = some u → F0.get t = some u ∨ ∃ e' ∈ e :: r, ∃ (o : Oper) (d : Nat), all[e'.on]? = some (o, u) ∧ o.dst = some d ∧ d = t := fun h => (ih h).imp id fun ⟨e', he, x⟩ => ⟨e', List.mem_cons_of_mem _ he, x⟩
    cases ha : all[e.on]? with
    | none => rw [ha] at h; exact rc h
    | some x =>
      obtain ⟨o, v⟩ := x
      rw [ha] at h
      simp only [Done.frO] at h
      cases hd : o.dst with
      | none => rw [hd] at h; exact rc h
      | some d =>
        rw [hd] at h
        simp only [List.cons_append, List.nil_append, Fr.get] at h
        by_cases e1 : d = t
        · subst e1; simp at h; subst h; exact .inr ⟨e, List.mem_cons_self .., o, d, ha, hd, rfl⟩
        · rw [beqF e1] at h; exact rc h
theorem allF_get {all : Done} {t : Nat} {u : Value} (h : (allF F0 all).get t = some u) : F0.get t = some u ∨ ∃ (i : Nat) (o : Oper), all[i]? = some (o, u) ∧ o.dst = some t := by
  induction all with
  | nil => exact .inl h
  | cons x r ih =>
    obtain ⟨o, v⟩ := x
    simp only [allF, Done.frO] at h
    have rc : (allF F0 r).get t = some u → F0.get t = some u ∨ ∃ (i : Nat) (o' : Oper), ((o, v) :: r)[i]? = some (o', u) ∧ o'.dst = some t := fun h => (ih h).imp id fun ⟨i, o', h1, h2⟩ => ⟨i + 1, o', by simpa using h1, h2⟩
    cases hd : o.dst with
    | none => rw [hd] at h; exact rc h
    | some d =>
      rw [hd] at h
      simp only [List.cons_append, List.nil_append, Fr.get] at h
      by_cases e1 : d = t
      · subst e1; simp at h; subst h; exact .inr ⟨0, o, rfl, hd⟩
      · rw [beqF e1] at h; exact rc h
theorem chainOk_get : ∀ {eff : List Nat}, chainOk ops eff = true → ∀ j a b : Nat, eff[j]? = some a → eff[j + 1]? = some b → ahead ops ops.length a b = true ∧ a < b
  | [], _, j, a, b, h, _ => by simp at h
  | [_], _, j, a, b, _, h => by cases j <;> simp at h
  | x :: y :: r, hc, j, a, b, h1, h2 => by
    simp only [chainOk, Bool.and_eq_true] at hc
    cases j with
    | zero => simp at h1 h2; subst h1; subst h2; exact ⟨hc.1.1, by simpa using hc.1.2⟩
    | succ j => exact chainOk_get hc.2 j a b (by simpa using h1) (by simpa using h2)
theorem chainOk_inj {eff : List Nat} (h : chainOk ops eff = true) : ∀ (i j a : Nat), eff[i]? = some a → eff[j]? = some a → i = j := by
  have mono : ∀ d i a b : Nat, eff[i]? = some a → eff[i + (d + 1)]? = some b → a < b := by
    intro d
    induction d with
    | zero => intro i a b h1 h2; exact (chainOk_get h i a b h1 h2).2
    | succ d ih =>
      intro i a b h1 h2
      have hlt : i + (d + 1) < eff.length := by have := (List.getElem?_eq_some_iff.1 h2).1; omega
      have h3 := ih i a _ h1 (List.getElem?_eq_getElem hlt)
      have h4 := (chainOk_get h (i + (d + 1)) _ b (List.getElem?_eq_getElem hlt) (by rw [show i + (d + 1) + 1 = i + (d + 1 + 1) from by omega]; exact h2)).2
      omega
  intro i j a h1 h2
  rcases Nat.lt_trichotomy i j with hlt | he | hlt
  · obtain ⟨d, hd⟩ : ∃ d, j = i + (d + 1) := ⟨j - i - 1, by omega⟩
    subst hd; have := mono d i a a h1 h2; omega
  · exact he
  · obtain ⟨d, hd⟩ : ∃ d, i = j + (d + 1) := ⟨i - j - 1, by omega⟩
    subst hd; have := mono d j a a h2 h1; omega

/-- Where a walk through the region stands. -/
structure Mid (w0 : World) (S0 : BSet) (n : Nat) (ops : List Oper) (F0 : Fr) (Av : Nat → List HP) (eff : List Nat) (all : Done) (L : Array Bool) (a : Act) (w : World) : Prop where
  size : L.size = ops.length
  down : ∀ (i : Nat) (o : Oper), L[i]? = some true → ops[i]? = some o → ∀ e ∈ aft o, L[e.on]? = some true
  base : Agr n F0 a
  told : ∀ (i : Nat) (o : Oper) (v : Value) (d : Nat), L[i]? = some true → all[i]? = some (o, v) → o.dst = some d → a.tmps[d]? = some v
  st : ∃ m, (∀ j e, eff[j]? = some e → (L[e]? = some true ↔ j < m)) ∧ m ≤ eff.length ∧ St w0 S0 (Av m) w

theorem listedB {L : Array Bool} {i : Nat} : (L.getD i false = true) ↔ L[i]? = some true := by
  rw [Array.getD_eq_getD_getElem?]
  cases h : L[i]? <;> simp
theorem mem_ready {L : Array Bool} {i : Nat} (h : i ∈ Region.ready .any ops.toArray L) (hb : ∀ o ∈ ops, ∀ e ∈ aft o, Region.binds .any e = true) :
    i < ops.length ∧ ¬ L[i]? = some true ∧ ∃ o, ops[i]? = some o ∧ ∀ e ∈ aft o, L[e.on]? = some true := by
  simp only [Region.ready, List.mem_filter, List.mem_range, Bool.and_eq_true, Bool.not_eq_true', List.size_toArray, List.getElem?_toArray] at h
  obtain ⟨h1, h2, h3⟩ := h
  refine ⟨h1, fun h => ?_, ?_⟩
  · rw [Array.getD_eq_getD_getElem?, h] at h2; simp at h2
  · have ho : ops[i]? = some ops[i] := List.getElem?_eq_getElem h1
    rw [ho] at h3
    simp only [Option.map_some, Option.getD_some] at h3
    rw [← Array.all_toList, List.all_eq_true] at h3
    refine ⟨_, ho, fun e he => ?_⟩
    have h4 := h3 e (mem_aft.1 he).1
    rw [hb _ (List.getElem_mem h1) e he] at h4
    simp only [Bool.not_true, Bool.false_or] at h4
    exact listedB.1 h4
theorem ready_nil {L : Array Bool} (h : Region.ready .any ops.toArray L = []) (hs : L.size = ops.length) (hlt : ∀ (i : Nat) (o : Oper), ops[i]? = some o → ∀ e ∈ aft o, e.on < i) : ∀ i, i < ops.length → L[i]? = some true := by
  intro i
  induction i using Nat.strongRecOn with
  | _ i ih =>
    intro hi
    by_cases hL : L[i]? = some true
    · exact hL
    · exfalso
      have : i ∈ Region.ready .any ops.toArray L := by
        simp only [Region.ready, List.mem_filter, List.mem_range, Bool.and_eq_true, Bool.not_eq_true', List.size_toArray, List.getElem?_toArray]
        refine ⟨hi, ?_, ?_⟩
        · rw [Array.getD_eq_getD_getElem?]
          have : i < L.size := by omega
          rw [Array.getElem?_eq_getElem this] at hL ⊢
          cases hb : L[i] <;> simp_all
        · have ho : ops[i]? = some ops[i] := List.getElem?_eq_getElem hi
          rw [ho]
          simp only [Option.map_some, Option.getD_some]
          rw [← Array.all_toList, List.all_eq_true]
          intro e he
          cases hbd : Region.binds .any e with
          | false => simp
          | true =>
            have h1 := hlt i _ ho e (mem_aft.2 ⟨he, hbd⟩)
            rw [listedB.2 (ih e.on h1 (by omega))]
            simp
      rw [h] at this; cases this

theorem draw_all {Q : Exit → Act → World → Prop} {all : Done} (hall : all.map (·.1) = ops) (hok : ∀ i o v, all[i]? = some (o, v) → StepOk P w0 S0 n ops F0 Av eff all i o v) (hslots : slotsOk F0 ops [] = true) (hdst : ops.all (fun o => o.dst.all fun d => Nat.blt d n) = true) (hchain : chainOk ops eff = true) (heff : eff.all (fun e => Nat.blt e ops.length) = true)
    (hfin : ∀ a w, Agr n (allF F0 all) a → St w0 S0 (Av eff.length) w → Q .normal a w) :
    ∀ (fuel : Nat) (L : Array Bool) (a : Act) (w : World), ((List.range ops.length).countP fun i => !L.getD i false) ≤ fuel → Mid w0 S0 n ops F0 Av eff all L a w → wpAny P .any ops.toArray Q fuel L a w := by
  have hall' : ∀ (i : Nat) (o : Oper), ops[i]? = some o → ∃ v, all[i]? = some (o, v) := by
    intro i o h
    rw [← hall, List.getElem?_map] at h
    cases ha : all[i]? with
    | none => rw [ha] at h; cases h
    | some x => rw [ha] at h; simp at h; exact ⟨x.2, by rw [← h]⟩
  have hlt : ∀ (i : Nat) (o : Oper), ops[i]? = some o → ∀ e ∈ aft o, e.on < i ∧ Region.binds .any e = true := by
    intro i o h
    obtain ⟨v, hv⟩ := hall' i o h
    exact edgesOk_lt (hok i o v hv).1
  have hb : ∀ o ∈ ops, ∀ e ∈ aft o, Region.binds .any e = true := by
    intro o ho e he
    obtain ⟨i, hi⟩ := List.getElem?_of_mem ho
    exact (hlt i o hi e he).2
  have done : ∀ L a w, Mid w0 S0 n ops F0 Av eff all L a w → Region.ready .any ops.toArray L = [] → Q .normal a w := by
    intro L a w hm hr
    have hl := ready_nil hr hm.size (fun i o h e he => (hlt i o h e he).1)
    obtain ⟨m, h1, h2, h3⟩ := hm.st
    have hm' : m = eff.length := by
      by_cases he : m = eff.length
      · exact he
      · exfalso
        have h4 : m < eff.length := by omega
        have h5 := h1 m _ (List.getElem?_eq_getElem h4)
        rw [List.all_eq_true] at heff
        have h6 := heff _ (List.getElem_mem h4)
        have h7 := h5.1 (hl _ (by simpa using h6))
        omega
    subst hm'
    refine hfin a w ⟨hm.base.defers, hm.base.size, fun t u ht => ?_⟩ h3
    rcases allF_get ht with h | ⟨i, o, ha, hd⟩
    · exact hm.base.get t u h
    · have hi : i < ops.length := by have := (List.getElem?_eq_some_iff.1 ha).1; rw [← hall]; simpa using this
      exact hm.told i o u t (hl i hi) ha hd
  intro fuel
  induction fuel with
  | zero =>
    intro L a w hc hm
    have hr : Region.ready .any ops.toArray L = [] := by
      rw [List.eq_nil_iff_forall_not_mem]
      intro i hi
      obtain ⟨h1, h2, _⟩ := mem_ready hi hb
      have : (List.range ops.length).countP (fun i => !L.getD i false) = 0 := by omega
      rw [List.countP_eq_zero] at this
      have h3 := this i (List.mem_range.2 h1)
      simp only [Bool.not_eq_true', Bool.not_eq_false] at h3
      exact h2 (listedB.1 h3)
    exact ⟨hr, done L a w hm hr⟩
  | succ fuel ih =>
    intro L a w hc hm
    refine ⟨done L a w hm, fun i hi => ?_⟩
    obtain ⟨hilt, hnot, o, ho, hpre⟩ := mem_ready hi hb
    obtain ⟨v, hv⟩ := hall' i o ho
    obtain ⟨hedge, hstep⟩ := hok i o v hv
    have hiL : i < L.size := by rw [hm.size]; exact hilt
    let L' := L.setIfInBounds i true
    have hL' : ∀ j, L'[j]? = if i = j then some true else L[j]? := by
      intro j
      show (L.setIfInBounds i true)[j]? = _
      rw [Array.getElem?_setIfInBounds]
      by_cases e : i = j
      · simp [e]; omega
      · simp [e]
    have hcnt : ((List.range ops.length).countP fun j => !L'.getD j false) ≤ fuel := by
      have h1 : ((List.range ops.length).countP fun j => !L'.getD j false) < ((List.range ops.length).countP fun j => !L.getD j false) := by
        have hsplit : List.range ops.length = List.range i ++ i :: List.range' (i + 1) (ops.length - (i + 1)) := by
          rw [List.range_eq_range', List.range_eq_range', ← List.range'_succ]
          rw [show ops.length - (i + 1) + 1 = ops.length - i from by omega]
          have := List.range'_append (s := 0) (m := i) (n := ops.length - i) (step := 1)
          simp at this
          rw [this]
          congr 1; omega
        rw [hsplit]
        simp only [List.countP_append, List.countP_cons]
        have e1 : ∀ l : List Nat, i ∉ l → l.countP (fun j => !L'.getD j false) = l.countP (fun j => !L.getD j false) := by
          intro l hl
          apply List.countP_congr
          intro j hj
          have hne : i ≠ j := fun e => hl (e ▸ hj)
          simp only [Array.getD_eq_getD_getElem?, hL' j, hne, ↓reduceIte]
        rw [e1 _ (by simp), e1 _ (by simp; omega)]
        have h2 : (!L'.getD i false) = false := by simp [Array.getD_eq_getD_getElem?, hL' i]
        have h3 : (!L.getD i false) = true := by
          cases hb : L.getD i false with
          | false => rfl
          | true => exact absurd (listedB.1 hb) hnot
        simp only [h2, h3, Bool.false_eq_true, ↓reduceIte]
        omega
      omega
    -- what the frame knows of the operations ahead
    have hfr : Agr n (preF F0 all (aft o)) a := ⟨hm.base.defers, hm.base.size, fun t u ht => by
      rcases preF_get ht with h | ⟨e, he, o', d, ha, hd, rfl⟩
      · exact hm.base.get t u h
      · exact hm.told e.on o' u d (hpre e he) ha hd⟩
    have hdown' : ∀ (j : Nat) (o' : Oper), L'[j]? = some true → ops[j]? = some o' → ∀ e ∈ aft o', L'[e.on]? = some true := by
      intro j o' hj ho' e he
      rw [hL'] at hj ⊢
      split
      · rfl
      · by_cases e1 : i = j
        · subst e1; rw [ho] at ho'; cases ho'; exact hpre e he
        · rw [if_neg e1] at hj; exact hm.down j o' hj ho' e he
    have hput : ∀ u, v = u → (Agr n F0 (a.put o.dst u) ∧ ∀ (j : Nat) (o' : Oper) (v' : Value) (d : Nat), L'[j]? = some true → all[j]? = some (o', v') → o'.dst = some d → (a.put o.dst u).tmps[d]? = some v') := by
      intro u hu
      subst hu
      obtain ⟨hs1, hs2⟩ := slotsOk_get hslots
      cases hd : o.dst with
      | none =>
        refine ⟨hm.base, fun j o' v' d hj ha hd' => ?_⟩
        rw [hL'] at hj
        by_cases e1 : i = j
        · subst e1; rw [hv] at ha; cases ha; rw [hd] at hd'; cases hd'
        · rw [if_neg e1] at hj; exact hm.told j o' v' d hj ha hd'
      | some d0 =>
        have hd0 : d0 < n := by
          rw [List.all_eq_true] at hdst
          have := hdst o (List.mem_of_getElem? ho)
          rw [hd] at this; simpa using this
        refine ⟨⟨hm.base.defers, by simp [Act.put, hm.base.size], fun t u' ht => ?_⟩, fun j o' v' d hj ha hd' => ?_⟩
        · have hne : d0 ≠ t := fun e => by subst e; rw [(hs1 i o d0 ho hd).2] at ht; cases ht
          simp only [Act.put, Array.getElem?_setIfInBounds, hne, ↓reduceIte]
          exact hm.base.get t u' ht
        · rw [hL'] at hj
          have hoj : ops[j]? = some o' := by rw [← hall, List.getElem?_map, ha]; rfl
          by_cases e1 : i = j
          · subst e1
            rw [hv] at ha; cases ha
            rw [hd] at hd'; cases hd'
            simp [Act.put, hm.base.size, hd0]
          · rw [if_neg e1] at hj
            have hne : d0 ≠ d := fun e => e1 (by subst e; exact hs2 i j o o' d0 ho hoj hd hd')
            simp only [Act.put, Array.getElem?_setIfInBounds, hne, ↓reduceIte]
            exact hm.told j o' v' d hj ha hd'
    have hwant : ∀ b, wants all o.guard = some b → Region.wanted o (yielded ops.toArray a.tmps) = b := by
      intro b hw
      cases hg : o.guard with
      | none => rw [hg] at hw; simp [wants] at hw; simp [Region.wanted, hg, hw]
      | some g =>
        obtain ⟨j, c⟩ := g
        rw [hg] at hw
        have hgj : ∃ e ∈ aft o, e.on = j := by
          simp only [edgesOk, hg, Option.all_some, Bool.and_eq_true, List.any_eq_true, beq_iff_eq] at hedge
          exact hedge.1
        obtain ⟨e, he, rfl⟩ := hgj
        simp only [wants] at hw
        cases ha : all[e.on]? with
        | none => rw [ha] at hw; cases hw
        | some x =>
          obtain ⟨o', v'⟩ := x
          rw [ha] at hw
          cases v' with
          | bool c' =>
            simp only [] at hw
            cases hd : o'.dst with
            | none => simp [hd] at hw
            | some d =>
              simp [hd] at hw
              have h1 := hm.told e.on o' (.bool c') d (hpre e he) ha hd
              have hoj : ops[e.on]? = some o' := by rw [← hall, List.getElem?_map, ha]; rfl
              simp [Region.wanted, hg, yielded, hoj, hd, h1, hw]
          | _ => simp at hw
    obtain ⟨m, hm1, hm2, hm3⟩ := hm.st
    have quietSt : eff.contains i = false → (∀ w', St w0 S0 (Av m) w' → ∃ m, (∀ j e, eff[j]? = some e → (L'[e]? = some true ↔ j < m)) ∧ m ≤ eff.length ∧ St w0 S0 (Av m) w') := by
      intro hne w' hs'
      refine ⟨m, fun j e he => ?_, hm2, hs'⟩
      have hie : i ≠ e := fun h => by
        subst h
        have : eff.contains i = true := by simpa using List.mem_of_getElem? he
        rw [this] at hne; cases hne
      rw [hL', if_neg hie]; exact hm1 j e he
    have hopsA : ops.toArray[i]? = some o := by simpa using ho
    unfold wpOp
    rw [hopsA]
    simp only []
    rcases hstep with ⟨hw, hne, lo, hi', hlo, hhi, hev⟩ | ⟨hw, hne, hvu⟩ | ⟨hw, j, hj, hev⟩
    · rw [if_pos (hwant true hw)]
      have hml : lo ≤ m := by
        simp only [Bool.or_eq_true, beq_iff_eq] at hlo
        rcases hlo with h | h
        · omega
        · cases he : eff[lo - 1]? with
          | none => rw [he] at h; cases h
          | some e =>
            rw [he] at h
            have := ahead_in (L := fun x => L[x]? = some true) (fun x o' hx ho' => hm.down x o' hx ho') ops.length e i h (fun o' ho' => by rw [ho] at ho'; cases ho'; exact hpre)
            have := (hm1 _ _ he).1 this
            omega
      have hmh : m ≤ hi' := by
        simp only [Bool.or_eq_true, beq_iff_eq] at hhi
        rcases hhi with h | h
        · omega
        · cases he : eff[hi']? with
          | none => rw [he] at h; cases h
          | some e =>
            rw [he] at h
            by_cases hlt' : hi' < m
            · exfalso
              have hl := (hm1 _ _ he).2 hlt'
              exact hnot (ahead_in (L := fun x => L[x]? = some true) (fun x o' hx ho' => hm.down x o' hx ho') ops.length i e h (fun o' ho' => hm.down e o' hl ho'))
            · omega
      refine .inl ((hev m hml hmh).go _ _ a w hfr hm3 fun w' hs' => ih L' _ w' hcnt ⟨by simp [L', hm.size], hdown', (hput v rfl).1, (hput v rfl).2, quietSt hne w' hs'⟩)
    · rw [if_neg (by rw [hwant false hw]; simp)]
      exact ih L' _ w hcnt ⟨by simp [L', hm.size], hdown', (hput undef hvu).1, (hput undef hvu).2, quietSt hne w hm3⟩
    · rw [if_pos (hwant true hw)]
      have hmj : m = j := by
        have h1 : ¬ j < m := fun h => hnot ((hm1 j i hj).2 h)
        by_cases h2 : m = j
        · exact h2
        · exfalso
          have hj0 : 0 < j := by omega
          have hjl : j < eff.length := (List.getElem?_eq_some_iff.1 hj).1
          have hp : eff[j - 1]? = some eff[j - 1] := List.getElem?_eq_getElem (by omega)
          have hc' := (chainOk_get hchain (j - 1) _ i hp (by rw [show j - 1 + 1 = j from by omega]; exact hj)).1
          have := ahead_in (L := fun x => L[x]? = some true) (fun x o' hx ho' => hm.down x o' hx ho') ops.length _ i hc' (fun o' ho' => by rw [ho] at ho'; cases ho'; exact hpre)
          have := (hm1 _ _ hp).1 this
          omega
      subst hmj
      refine .inl (hev.go _ _ a w hfr hm3 fun w' hs' => ih L' _ w' hcnt ⟨by simp [L', hm.size], hdown', (hput v rfl).1, (hput v rfl).2, m + 1, fun j' e he => ?_, by have := (List.getElem?_eq_some_iff.1 hj).1; omega, hs'⟩)
      rw [hL']
      by_cases hie : i = e
      · subst hie
        have := chainOk_inj hchain _ _ _ hj he
        subst this; simp
      · rw [if_neg hie, hm1 j' e he]
        constructor
        · intro h; omega
        · intro h
          by_cases h' : j' = m
          · subst h'; rw [hj] at he; cases he; exact absurd rfl hie
          · omega

theorem allF_of {all : Done} (hs : slotsOk F0 ops [] = true) (hall : all.map (·.1) = ops) {t : Nat} {u : Value} (h : F0.get t = some u ∨ ∃ (i : Nat) (o : Oper), all[i]? = some (o, u) ∧ o.dst = some t) : (allF F0 all).get t = some u := by
  subst hall
  have key : ∀ (all : Done) (seen : List Nat), slotsOk F0 (all.map (·.1)) seen = true → (F0.get t = some u ∨ ∃ (i : Nat) (o : Oper), all[i]? = some (o, u) ∧ o.dst = some t) → (allF F0 all).get t = some u := by
    intro all
    induction all with
    | nil => intro _ _ h; rcases h with h | ⟨i, o, h, _⟩; exact h; simp at h
    | cons x r ih =>
      intro seen hs h
      obtain ⟨o, v⟩ := x
      have hsl := hs
      simp only [List.map_cons, slotsOk] at hs
      simp only [allF, Done.frO]
      cases hd : o.dst with
      | none =>
        rw [hd] at hs
        refine ih seen hs (h.imp id ?_)
        rintro ⟨i, o', h1, h2⟩
        cases i with
        | zero => simp at h1; obtain ⟨rfl, rfl⟩ := h1; rw [hd] at h2; cases h2
        | succ i => exact ⟨i, o', by simpa using h1, h2⟩
      | some d =>
        rw [hd] at hs
        simp only [Bool.and_eq_true, Bool.not_eq_true', Option.isNone_iff_eq_none] at hs
        simp only [List.cons_append, List.nil_append, Fr.get]
        by_cases e : d = t
        · subst e
          simp only [Nat.beq_refl, cond_true]
          rcases h with h | ⟨i, o', h1, h2⟩
          · rw [hs.1.2] at h; cases h
          · cases i with
            | zero => simp at h1; rw [h1.2]
            | succ i =>
              exfalso
              have := (slotsOk_get hsl).2 0 (i + 1) o o' d (by simp) (by simpa using ⟨_, h1⟩) hd h2
              cases this
        · rw [beqF e]
          refine ih (d :: seen) hs.2 (h.imp id ?_)
          rintro ⟨i, o', h1, h2⟩
          cases i with
          | zero => simp at h1; obtain ⟨rfl, rfl⟩ := h1; rw [hd] at h2; exact absurd (Option.some.inj h2) e
          | succ i => exact ⟨i, o', by simpa using h1, h2⟩
  exact key all [] hs h
theorem allF_rev {all : Done} (hs : slotsOk F0 ops [] = true) (hall : all.reverse.map (·.1) = ops) {t : Nat} {u : Value} (h : (allF F0 all).get t = some u) : (allF F0 all.reverse).get t = some u := by
  refine allF_of hs hall ?_
  refine (allF_get h).imp id ?_
  rintro ⟨i, o, h1, h2⟩
  have hm : (o, u) ∈ all.reverse := by simpa using List.mem_of_getElem? h1
  obtain ⟨k, hk⟩ := List.getElem?_of_mem hm
  exact ⟨k, o, hk, h2⟩
theorem rep_false {k : Nat} (i : Nat) : ¬ (Array.replicate k false)[i]? = some true := by
  rw [Array.getElem?_replicate]; split <;> simp
theorem WC.draw {id : Nat} {Q : Exit → Act → World → Prop} {F : Fr} {A : List HP} {all : Done} (F0 : Fr) (Av : Nat → List HP) (eff : List Nat) (hmix : P.follows .mixedOrders = true) (hsub : Sub F0 F) (hA : Av 0 = A) (hslots : slotsOk F0 ops [] = true) (hdst : ops.all (fun o => o.dst.all fun d => Nat.blt d n) = true) (hchain : chainOk ops eff = true) (heff : eff.all (fun e => Nat.blt e ops.length) = true)
    (hedge : edgesAll 0 ops = true)
    (hd : Draws P w0 S0 n ops F0 Av eff 0 [] ops all) (h : WE w0 S0 n Q .normal (allF F0 all) (Av eff.length)) : WC P w0 S0 n (.region id ops.toArray true) Q F A := by
  subst hA
  refine ⟨fun a w ha hs => wp_region_any hmix ?_⟩
  obtain ⟨more, h1, h2, h3⟩ := hd.ok rfl hedge
  simp only [List.reverse_nil, List.nil_append] at h1
  subst h1
  refine draw_all h2 (fun i o v hi => by simpa using h3 i o v hi) hslots hdst hchain heff (fun a w ha hs => h.go a w ⟨ha.defers, ha.size, fun t u ht => ha.get t u (allF_rev hslots h2 ht)⟩ hs) _ _ _ _ ?_ ⟨by simp, ?_, ha.sub hsub, ?_, 0, ?_, Nat.zero_le _, hs.drew _⟩
  · exact Nat.le_trans (List.countP_le_length ..) (by simp)
  · intro i o hi; exact absurd hi (rep_false i)
  · intro i o v d hi; exact absurd hi (rep_false i)
  · intro j e he; simp [rep_false e]
end
end Go.BK
