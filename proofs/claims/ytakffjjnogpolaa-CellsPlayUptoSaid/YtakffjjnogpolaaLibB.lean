/- Frames as finite maps; judgements on operations, lists of operations, codes; the rules of control. No program in sight. -/
import Derived.Test.YtakffjjnogpolaaLibA
namespace Go.BK
open Go.RowKit

theorem beqF {a b : Nat} (h : a ≠ b) : Nat.beq a b = false := by
  cases hb : Nat.beq a b with
  | false => rfl
  | true => exact (h (Nat.eq_of_beq_eq_true hb)).elim

abbrev Fr := List (Nat × Value)
def Fr.get : Fr → Nat → Option Value
  | [], _ => none
  | (s, v) :: r, t => bif Nat.beq s t then some v else Fr.get r t
def ev (F : Fr) : Operand → Option Value
  | .tmp t => F.get t
  | .const v => some v
  | .global g => some (.pointer (some ⟨g, 0, none⟩))
  | .func f => some (.func (.func f) #[] #[])
def evs (F : Fr) : List Operand → Option (List Value)
  | [] => some []
  | x :: r => match ev F x with
    | some v => match evs F r with
      | some vs => some (v :: vs)
      | none => none
    | none => none

structure Agr (n : Nat) (F : Fr) (a : Act) : Prop where
  defers : a.defers = []
  size : a.tmps.size = n
  get : ∀ t v, F.get t = some v → a.tmps[t]? = some v

theorem Agr.eval {n : Nat} {F : Fr} {a : Act} {x : Operand} {v : Value} (h : Agr n F a) (he : ev F x = some v) : a.eval x = v := by
  cases x with
  | tmp t => simp only [ev] at he; simp [Act.eval, h.get t v he]
  | const u => simpa [ev, Act.eval] using he
  | global g => simpa [ev, Act.eval] using he
  | func f => simpa [ev, Act.eval] using he
theorem Agr.put {n : Nat} {F : Fr} {a : Act} {d : Nat} (h : Agr n F a) (hd : d < n) (v : Value) : Agr n ((d, v) :: F) (a.put (some d) v) := by
  refine ⟨h.defers, by simp [Act.put, h.size], fun t u ht => ?_⟩
  simp only [Act.put, Array.getElem?_setIfInBounds]
  simp only [Fr.get] at ht
  by_cases e : d = t
  · subst e; simp at ht; simp [h.size, hd, ht]
  · have : Nat.beq d t = false := beqF e
    rw [this] at ht
    simp [e, h.get t u ht]
theorem Agr.put_none {n : Nat} {F : Fr} {a : Act} (h : Agr n F a) (v : Value) : Agr n F (a.put none v) := h

/-- Every entry of the first is one of the second. -/
def Sub : Fr → Fr → Prop
  | [], _ => True
  | (t, v) :: r, F => F.get t = some v ∧ Sub r F
theorem Sub.get {F F' : Fr} (h : Sub F' F) {t : Nat} {v : Value} (hv : F'.get t = some v) : F.get t = some v := by
  induction F' with
  | nil => simp [Fr.get] at hv
  | cons e r ih =>
    obtain ⟨s, u⟩ := e
    simp only [Fr.get] at hv
    by_cases e : s = t
    · subst e; simp at hv; subst hv; exact h.1
    · have : Nat.beq s t = false := beqF e
      rw [this] at hv
      exact ih h.2 hv
theorem Agr.sub {n : Nat} {F F' : Fr} {a : Act} (h : Agr n F a) (s : Sub F' F) : Agr n F' a := ⟨h.defers, h.size, fun t v ht => h.get t v (s.get ht)⟩

/-- The frame of a call's arguments. -/
def argFr : Nat → List Value → Fr
  | _, [] => []
  | i, v :: r => (i, v) :: argFr (i + 1) r
theorem argFr_get {l : List Value} {i t : Nat} {v : Value} (h : (argFr i l).get t = some v) : i ≤ t ∧ l[t - i]? = some v := by
  induction l generalizing i with
  | nil => simp [argFr, Fr.get] at h
  | cons u r ih =>
    simp only [argFr, Fr.get] at h
    by_cases e : i = t
    · subst e; simp at h; subst h; simp
    · have : Nat.beq i t = false := beqF e
      rw [this] at h
      obtain ⟨h1, h2⟩ := ih h
      refine ⟨by omega, ?_⟩
      rw [show t - i = (t - (i + 1)) + 1 from by omega]
      simpa using h2
theorem subA {l : List Value} {F0 : Fr} (h : argFr 0 l = F0) : ∀ t v, F0.get t = some v → l[t]? = some v := by
  intro t v hv
  subst h
  simpa using (argFr_get hv).2

/-- The operation answers v, and leaves what is owned as it is. -/
structure EvW (P : Program) (w0 : World) (S0 : BSet) (n : Nat) (F : Fr) (A : List HP) (o : Oper) (v : Value) : Prop where
  go : ∀ (Q : Exit → Act → World → Prop) (K : Act → World → Prop) (a : Act) (w : World), Agr n F a → St w0 S0 A w → (∀ w', St w0 S0 A w' → K (a.put o.dst v) w') → o.wp P a w K Q
structure WL (P : Program) (w0 : World) (S0 : BSet) (n : Nat) (ops : Array Oper) (Q : Exit → Act → World → Prop) (rest : List Oper) (F : Fr) (A : List HP) : Prop where
  go : ∀ a w, Agr n F a → St w0 S0 A w → wpList P ops Q rest a w
structure WC (P : Program) (w0 : World) (S0 : BSet) (n : Nat) (c : Code) (Q : Exit → Act → World → Prop) (F : Fr) (A : List HP) : Prop where
  go : ∀ a w, Agr n F a → St w0 S0 A w → c.wp P Q a w
structure WE (w0 : World) (S0 : BSet) (n : Nat) (Q : Exit → Act → World → Prop) (e : Exit) (F : Fr) (A : List HP) : Prop where
  go : ∀ a w, Agr n F a → St w0 S0 A w → Q e a w

section
variable {P : Program} {w0 : World} {S0 : BSet} {n : Nat} {F : Fr} {A : List HP} {ops : Array Oper} {Q : Exit → Act → World → Prop} {rest : List Oper} {o : Oper} {v : Value}

theorem EvW.pure (h : ∀ a w, Agr n F a → St w0 S0 A w → (execOp a.eval o).run P w = .ok (.value v) w) : EvW P w0 S0 n F A o v :=
  ⟨fun Q K a w ha hs hk => by unfold Oper.wp; rw [h a w ha hs]; exact hk w hs⟩

theorem WL.step (h : ∀ a w, Agr n F a → St w0 S0 A w → ∀ K : Act → World → Prop, (∀ a' w', wpList P ops Q rest a' w' → K a' w') → o.wp P a w K Q) (hg : o.guard = none) : WL P w0 S0 n ops Q (o :: rest) F A :=
  ⟨fun a w ha hs => wpList_plain hg (h a w ha hs)⟩
/-- A quiet operation. -/
theorem WL.q {d : Nat} (hg : o.guard = none) (hd : o.dst = some d) (hn : Nat.blt d n = true) (h : EvW P w0 S0 n F A o v) (k : WL P w0 S0 n ops Q rest ((d, v) :: F) A) : WL P w0 S0 n ops Q (o :: rest) F A :=
  .step (fun a w ha hs K hK => h.go Q K a w ha hs fun w' hs' => hK _ _ (by rw [hd]; exact k.go _ _ (ha.put (by simpa using hn) v) hs')) hg
/-- A guarded operation that is wanted. -/
theorem WL.wanted {g : Nat × Bool} {go : Oper} {gd : Nat} {dst : Option Tmp} {op : Op} {T : TypeId} {pos : String} {af : Array Edge} (hj : ops[g.1]? = some go) (hgd : go.dst = some gd) (hv : F.get gd = some (.bool g.2))
    (k : WL P w0 S0 n ops Q (⟨dst, op, T, pos, af, none⟩ :: rest) F A) : WL P w0 S0 n ops Q (⟨dst, op, T, pos, af, some g⟩ :: rest) F A :=
  ⟨fun a w ha hs => by
    have h1 := k.go a w ha hs
    have hy : yielded ops a.tmps g.1 = some g.2 := by simp [yielded, hj, hgd, ha.get gd _ hv]
    unfold wpList at h1 ⊢
    simp only [Region.wanted, hy, beq_self_eq_true, ↓reduceIte] at h1 ⊢
    exact h1⟩
/-- A guarded operation that isn't. -/
theorem WL.unwanted {g : Nat × Bool} {go : Oper} {gd d : Nat} {op : Op} {T : TypeId} {pos : String} {af : Array Edge} (hj : ops[g.1]? = some go) (hgd : go.dst = some gd) (hv : F.get gd = some (.bool (!g.2))) (hn : Nat.blt d n = true)
    (k : WL P w0 S0 n ops Q rest ((d, undef) :: F) A) : WL P w0 S0 n ops Q (⟨some d, op, T, pos, af, some g⟩ :: rest) F A :=
  ⟨fun a w ha hs => by
    have hy : yielded ops a.tmps g.1 = some (!g.2) := by simp [yielded, hj, hgd, ha.get gd _ hv]
    unfold wpList
    rw [if_neg (by cases h : g.2 <;> simp [Region.wanted, hy, h])]
    exact k.go _ _ (ha.put (by simpa using hn) undef) hs⟩
theorem WL.unwanted0 {g : Nat × Bool} {go : Oper} {gd : Nat} {op : Op} {T : TypeId} {pos : String} {af : Array Edge} (hj : ops[g.1]? = some go) (hgd : go.dst = some gd) (hv : F.get gd = some (.bool (!g.2)))
    (k : WL P w0 S0 n ops Q rest F A) : WL P w0 S0 n ops Q (⟨none, op, T, pos, af, some g⟩ :: rest) F A :=
  ⟨fun a w ha hs => by
    have hy : yielded ops a.tmps g.1 = some (!g.2) := by simp [yielded, hj, hgd, ha.get gd _ hv]
    unfold wpList
    rw [if_neg (by cases h : g.2 <;> simp [Region.wanted, hy, h])]
    exact k.go _ _ ha hs⟩
/-- A slot's truth is parted. -/
theorem WL.split (t : Nat) {b : Bool} (hv : F.get t = some (.bool b)) (h1 : b = true → WL P w0 S0 n ops Q rest ((t, .bool true) :: F) A) (h2 : b = false → WL P w0 S0 n ops Q rest ((t, .bool false) :: F) A) : WL P w0 S0 n ops Q rest F A :=
  ⟨fun a w ha hs => by
    have key : ∀ u, F.get t = some u → Agr n ((t, u) :: F) a := fun u hu => ⟨ha.defers, ha.size, fun s x hx => by
      simp only [Fr.get] at hx
      by_cases e : t = s
      · subst e; simp at hx; subst hx; exact ha.get _ _ hu
      · have : Nat.beq t s = false := beqF e
        rw [this] at hx; exact ha.get _ _ hx⟩
    cases b with
    | true => exact (h1 rfl).go a w (key _ hv) hs
    | false => exact (h2 rfl).go a w (key _ hv) hs⟩
theorem WL.splitP (t : Nat) {p : Prop} [Decidable p] (hv : F.get t = some (.bool (decide p))) (h1 : p → WL P w0 S0 n ops Q rest ((t, .bool true) :: F) A) (h2 : ¬ p → WL P w0 S0 n ops Q rest ((t, .bool false) :: F) A) : WL P w0 S0 n ops Q rest F A :=
  .split t hv (fun h => h1 (of_decide_eq_true h)) (fun h => h2 (of_decide_eq_false h))

theorem WL.nil (h : WE w0 S0 n Q .normal F A) : WL P w0 S0 n ops Q [] F A := ⟨fun a w ha hs => wpList_nil (h.go a w ha hs)⟩
theorem WL.sub {F' : Fr} (s : Sub F' F) (h : WL P w0 S0 n ops Q rest F' A) : WL P w0 S0 n ops Q rest F A := ⟨fun a w ha hs => h.go a w (ha.sub s) hs⟩
theorem WL.conv {A' : List HP} (c : ∀ w, St w0 S0 A w → St w0 S0 A' w) (h : WL P w0 S0 n ops Q rest F A') : WL P w0 S0 n ops Q rest F A := ⟨fun a w ha hs => h.go a w ha (c w hs)⟩

variable {c x y : Code}
theorem WC.seq (h : WC P w0 S0 n x (Exit.then (y.wp P Q) Q) F A) : WC P w0 S0 n (.seq x y) Q F A := ⟨fun a w ha hs => wp_seq (h.go a w ha hs)⟩
theorem WC.region {id : Nat} {l : List Oper} (h : WL P w0 S0 n l.toArray Q l F A) : WC P w0 S0 n (.region id l.toArray false) Q F A := ⟨fun a w ha hs => wp_region_lit (h.go a w ha hs)⟩
theorem WC.skip (h : WE w0 S0 n Q .normal F A) : WC P w0 S0 n .skip Q F A := ⟨fun a w ha hs => wp_skip (h.go a w ha hs)⟩
theorem WC.label {l : Nat} (h : WE w0 S0 n Q .normal F A) : WC P w0 S0 n (.label l) Q F A := ⟨fun a w ha hs => wp_label (h.go a w ha hs)⟩
theorem WC.exit {id : Nat} (h : WE w0 S0 n Q (.exit id) F A) : WC P w0 S0 n (.exit id) Q F A := ⟨fun a w ha hs => wp_exit (h.go a w ha hs)⟩
theorem WC.ret (h : WE w0 S0 n Q .ret F A) : WC P w0 S0 n .ret Q F A := ⟨fun a w ha hs => wp_ret (h.go a w ha hs)⟩
theorem WC.block {id : Nat} (h : WC P w0 S0 n c (Exit.inBlock id Q) F A) : WC P w0 S0 n (.block id c) Q F A := ⟨fun a w ha hs => wp_block (h.go a w ha hs)⟩
theorem WC.condT {z : Operand} (hv : ev F z = some (.bool true)) (h : WC P w0 S0 n x Q F A) : WC P w0 S0 n (.cond z x y) Q F A := ⟨fun a w ha hs => wp_cond_true (ha.eval hv) (h.go a w ha hs)⟩
theorem WC.condF {z : Operand} (hv : ev F z = some (.bool false)) (h : WC P w0 S0 n y Q F A) : WC P w0 S0 n (.cond z x y) Q F A := ⟨fun a w ha hs => wp_cond_false (ha.eval hv) (h.go a w ha hs)⟩
theorem WC.cond {z : Operand} {b : Bool} (hv : ev F z = some (.bool b)) (h1 : b = true → WC P w0 S0 n x Q F A) (h2 : b = false → WC P w0 S0 n y Q F A) : WC P w0 S0 n (.cond z x y) Q F A :=
  ⟨fun a w ha hs => wp_cond_split (ha.eval hv) (fun h => (h1 h).go a w ha hs) (fun h => (h2 h).go a w ha hs)⟩
theorem WC.condP {z : Operand} {p : Prop} [Decidable p] (hv : ev F z = some (.bool (decide p))) (h1 : p → WC P w0 S0 n x Q F A) (h2 : ¬ p → WC P w0 S0 n y Q F A) : WC P w0 S0 n (.cond z x y) Q F A :=
  .cond hv (fun h => h1 (of_decide_eq_true h)) (fun h => h2 (of_decide_eq_false h))
theorem WC.sub {F' : Fr} (s : Sub F' F) (h : WC P w0 S0 n c Q F' A) : WC P w0 S0 n c Q F A := ⟨fun a w ha hs => h.go a w (ha.sub s) hs⟩
theorem WC.conv {A' : List HP} (k : ∀ w, St w0 S0 A w → St w0 S0 A' w) (h : WC P w0 S0 n c Q F A') : WC P w0 S0 n c Q F A := ⟨fun a w ha hs => h.go a w ha (k w hs)⟩

theorem WE.next (h : WC P w0 S0 n y Q F A) : WE w0 S0 n (Exit.then (y.wp P Q) Q) .normal F A := ⟨fun a w ha hs => h.go a w ha hs⟩
theorem WE.pass {K : Act → World → Prop} {id : Nat} (h : WE w0 S0 n Q (.exit id) F A) : WE w0 S0 n (Exit.then K Q) (.exit id) F A := ⟨fun a w ha hs => h.go a w ha hs⟩
theorem WE.passRet {K : Act → World → Prop} (h : WE w0 S0 n Q .ret F A) : WE w0 S0 n (Exit.then K Q) .ret F A := ⟨fun a w ha hs => h.go a w ha hs⟩
theorem WE.hit {id : Nat} (h : WE w0 S0 n Q .normal F A) : WE w0 S0 n (Exit.inBlock id Q) (.exit id) F A := ⟨fun a w ha hs => by simp only [Exit.inBlock, ↓reduceIte]; exact h.go a w ha hs⟩
theorem WE.miss {id id' : Nat} (hne : Nat.beq id' id = false) (h : WE w0 S0 n Q (.exit id') F A) : WE w0 S0 n (Exit.inBlock id Q) (.exit id') F A :=
  ⟨fun a w ha hs => by have : id' ≠ id := Nat.ne_of_beq_eq_false hne
                       simp only [Exit.inBlock, this, ↓reduceIte]; exact h.go a w ha hs⟩
theorem WE.out {id : Nat} (h : WE w0 S0 n Q .normal F A) : WE w0 S0 n (Exit.inBlock id Q) .normal F A := ⟨fun a w ha hs => h.go a w ha hs⟩
theorem WE.outRet {id : Nat} (h : WE w0 S0 n Q .ret F A) : WE w0 S0 n (Exit.inBlock id Q) .ret F A := ⟨fun a w ha hs => h.go a w ha hs⟩
theorem WE.conv {e : Exit} {A' : List HP} (k : ∀ w, St w0 S0 A w → St w0 S0 A' w) (h : WE w0 S0 n Q e F A') : WE w0 S0 n Q e F A := ⟨fun a w ha hs => h.go a w ha (k w hs)⟩

/-- A loop: s is what turns; Fi, Ai say how the frame and the memory hang on it. -/
theorem WC.loop {σ : Type} (Fi : σ → Fr) (Ai : σ → List HP) (I : σ → Prop) (μ : σ → Nat) (s0 : σ) (hF : Sub (Fi s0) F) (hA : ∀ w, St w0 S0 A w → St w0 S0 (Ai s0) w) (hI : I s0)
    (round : ∀ s, I s → WC P w0 S0 n c (Exit.then (fun a' w' => ∃ s', I s' ∧ Agr n (Fi s') a' ∧ St w0 S0 (Ai s') w' ∧ μ s' < μ s) Q) (Fi s) (Ai s)) : WC P w0 S0 n (.loop c) Q F A := by
  refine ⟨fun a w ha hs => ?_⟩
  have key : ∀ a w (h : ∃ m s, I s ∧ Agr n (Fi s) a ∧ St w0 S0 (Ai s) w ∧ μ s = m), ∃ m, (∃ s, I s ∧ Agr n (Fi s) a ∧ St w0 S0 (Ai s) w ∧ μ s = m) ∧ ∀ s, I s ∧ Agr n (Fi s) a ∧ St w0 S0 (Ai s) w → m ≤ μ s := by
    intro a w ⟨m, h⟩
    induction m using Nat.strongRecOn with
    | _ m ih =>
      by_cases hm : ∃ m', m' < m ∧ ∃ s, I s ∧ Agr n (Fi s) a ∧ St w0 S0 (Ai s) w ∧ μ s = m'
      · obtain ⟨m', hlt, h'⟩ := hm; exact ih m' hlt h'
      · refine ⟨m, h, fun s ⟨h1, h2, h3⟩ => Nat.le_of_not_lt fun hlt => hm ⟨μ s, hlt, s, h1, h2, h3, rfl⟩⟩
  have le : ∀ a w, ∃ m, (∀ s, I s ∧ Agr n (Fi s) a ∧ St w0 S0 (Ai s) w → m ≤ μ s) ∧ ((∃ s, I s ∧ Agr n (Fi s) a ∧ St w0 S0 (Ai s) w) → ∃ s, I s ∧ Agr n (Fi s) a ∧ St w0 S0 (Ai s) w ∧ μ s = m) := by
    intro a w
    by_cases h : ∃ s, I s ∧ Agr n (Fi s) a ∧ St w0 S0 (Ai s) w
    · obtain ⟨s, h1, h2, h3⟩ := h
      obtain ⟨m, h4, h5⟩ := key a w ⟨_, s, h1, h2, h3, rfl⟩
      exact ⟨m, h5, fun _ => h4⟩
    · exact ⟨0, fun _ _ => Nat.zero_le _, fun h' => (h h').elim⟩
  refine wp_loop (fun a w => ∃ s, I s ∧ Agr n (Fi s) a ∧ St w0 S0 (Ai s) w) (fun a w => Classical.choose (le a w)) ⟨s0, hI, ha.sub hF, hA w hs⟩ ?_
  intro a w h
  obtain ⟨s, h1, h2, h3, h4⟩ := (Classical.choose_spec (le a w)).2 h
  refine Code.wp_mono ?_ ((round s h1).go a w h2 h3)
  intro e a' w' q
  cases e with
  | normal =>
    obtain ⟨s', h5, h6, h7, h8⟩ := q
    exact ⟨⟨s', h5, h6, h7⟩, by
      have := (Classical.choose_spec (le a' w')).1 s' ⟨h5, h6, h7⟩
      show Classical.choose (le a' w') < Classical.choose (le a w)
      omega⟩
  | _ => exact q
theorem WE.again {σ : Type} {Fi : σ → Fr} {Ai : σ → List HP} {I : σ → Prop} {μ : σ → Nat} {s : σ} (s' : σ) (hI : I s') (hF : Sub (Fi s') F) (hA : ∀ w, St w0 S0 A w → St w0 S0 (Ai s') w) (hm : μ s' < μ s) :
    WE w0 S0 n (Exit.then (fun a' w' => ∃ s', I s' ∧ Agr n (Fi s') a' ∧ St w0 S0 (Ai s') w' ∧ μ s' < μ s) Q) .normal F A :=
  ⟨fun _ w ha hs => ⟨s', hI, ha.sub hF, hA w hs, hm⟩⟩

/-- What a call that returns leaves. -/
def RetSt (w0 : World) (S0 : BSet) (R : Value → List HP → Prop) : Ending → World → Prop := fun e w' => ∃ v A', e = .returned v ∧ R v A' ∧ St w0 S0 A' w'
structure Tri (P : Program) (f : FuncId) (args : Array Value) (w0 : World) (S0 : BSet) (R : Value → List HP → Prop) : Prop where
  go : Calls P f args w0 (RetSt w0 S0 R)
theorem Tri.mono {f : FuncId} {args : Array Value} {R R' : Value → List HP → Prop} (h : Tri P f args w0 S0 R) (k : ∀ v A, R v A → R' v A) : Tri P f args w0 S0 R' :=
  ⟨h.go.mono fun _ _ ⟨v, A', h1, h2, h3⟩ => ⟨v, A', h1, k v A' h2, h3⟩⟩
theorem Tri.enter {f : FuncId} {fn : Func} {l : List Value} {R : Value → List HP → Prop} (hf : P.funcs[f]? = some fn) (hb : fn.body = some c) (hn : fn.ntmps = n) (hl : Nat.ble l.length n = true) (F0 : Fr) (hF : ∀ t v, F0.get t = some v → l[t]? = some v)
    (hA : (sepL A).sat S0 w0) (h : WC P w0 S0 n c (bodyPost P fn (RetSt w0 S0 R)) F0 A) : Tri P f l.toArray w0 S0 R :=
  ⟨calls_of_wp hf hb (h.go _ _ ⟨rfl, by
    have h1 := Nat.le_of_ble_eq_true hl
    show (l.toArray ++ Array.replicate (fn.ntmps - l.toArray.size) undef).size = n
    rw [Array.size_append, Array.size_replicate, List.size_toArray, hn]; omega, fun t v ht => by
    have := hF t v ht
    have hlt : t < l.length := by rw [List.getElem?_eq_some_iff] at this; exact this.1
    show (l.toArray ++ Array.replicate (fn.ntmps - l.toArray.size) undef)[t]? = some v
    rw [Array.getElem?_append, if_pos (by simpa using hlt)]; simpa using this⟩ (.start hA))⟩
theorem WE.ret0 {fn : Func} {R : Value → List HP → Prop} (hr : fn.results = #[]) (h : R (.tuple #[]) A) : WE w0 S0 n (bodyPost P fn (RetSt w0 S0 R)) .ret F A :=
  ⟨fun _ _ ha hs => bodyPost_ret (results_none hr _ _ _) ha.defers ⟨_, _, rfl, h, hs⟩⟩
theorem WE.end0 {fn : Func} {R : Value → List HP → Prop} (hr : fn.results = #[]) (h : R (.tuple #[]) A) : WE w0 S0 n (bodyPost P fn (RetSt w0 S0 R)) .normal F A :=
  ⟨fun _ _ ha hs => bodyPost_end (results_none hr _ _ _) ha.defers ⟨_, _, rfl, h, hs⟩⟩
theorem WE.ret1 {fn : Func} {t : Nat} {R : Value → List HP → Prop} (hr : fn.results = #[.tmp t]) (hv : F.get t = some v) (h : R v A) : WE w0 S0 n (bodyPost P fn (RetSt w0 S0 R)) .ret F A :=
  ⟨fun a w ha hs => bodyPost_ret (results_tmp hr _ _ _) ha.defers ⟨_, _, rfl, by rw [Array.getD_eq_getD_getElem?, ha.get t v hv]; exact h, hs⟩⟩
theorem WE.ret2 {fn : Func} {t t' : Nat} {v' : Value} {R : Value → List HP → Prop} (hr : fn.results = #[.tmp t, .tmp t']) (hv : F.get t = some v) (hv' : F.get t' = some v') (h : R (.tuple #[v, v']) A) : WE w0 S0 n (bodyPost P fn (RetSt w0 S0 R)) .ret F A :=
  ⟨fun a w ha hs => bodyPost_ret (results_tmp2 hr _ _ _) ha.defers ⟨_, _, rfl, by rw [Array.getD_eq_getD_getElem?, ha.get t v hv, Array.getD_eq_getD_getElem?, ha.get t' v' hv']; exact h, hs⟩⟩
def gets (F : Fr) : List Nat → Option (List Value)
  | [] => some []
  | t :: r => match F.get t with
    | some v => match gets F r with
      | some vs => some (v :: vs)
      | none => none
    | none => none
theorem mapM_pure_run (g : ResultVar → Sem Value) (h : Nat → Value) (hg : ∀ t, g (.tmp t) = Pure.pure (h t)) (w : World) : ∀ l : List Nat, Sem.run P (List.mapM (g ∘ ResultVar.tmp) l) w = .ok (l.map h) w := by
  intro l
  induction l with
  | nil => rfl
  | cons t r ih => simp [List.mapM_cons, ih, hg]
theorem results_tmps {fn : Func} {l : List Nat} (hr : fn.results = (l.map ResultVar.tmp).toArray) (hl : l.length ≠ 1) (tmps : Array Value) (w : World) : (results fn tmps).run P w = .ok (.tuple (l.map fun t => tmps.getD t undef).toArray) w := by
  unfold results
  rw [hr]
  simp
  rw [mapM_pure_run _ (fun t => tmps[t]?.getD undef) (fun _ => rfl)]
  simp [hl]
theorem WE.retN {fn : Func} {l : List Nat} {vs : List Value} {R : Value → List HP → Prop} (hr : fn.results = (l.map ResultVar.tmp).toArray) (hl : Nat.beq l.length 1 = false) (hv : gets F l = some vs) (h : R (.tuple vs.toArray) A) : WE w0 S0 n (bodyPost P fn (RetSt w0 S0 R)) .ret F A :=
  ⟨fun a w ha hs => bodyPost_ret (results_tmps hr (Nat.ne_of_beq_eq_false hl) _ _) ha.defers ⟨_, _, rfl, by
    have : ∀ (l : List Nat) (vs : List Value), gets F l = some vs → (l.map fun t => a.tmps.getD t undef) = vs := by
      intro l
      induction l with
      | nil => intro vs h; simpa [gets] using h
      | cons t r ih =>
        intro vs h
        simp only [gets] at h
        cases ht : F.get t with
        | none => simp [ht] at h
        | some u =>
          cases hr : gets F r with
          | none => simp [ht, hr] at h
          | some us =>
            simp [ht, hr] at h
            subst h
            simp [Array.getD_eq_getD_getElem?, ha.get t u ht, ← ih us hr]
    rw [this l vs hv]; exact h, hs⟩⟩

/-- A call whose contract is known. -/
theorem WL.call {d : Nat} {f : FuncId} {args : List Operand} {ats : Array TypeId} {T : TypeId} {pos : String} {af : Array Edge} {vals : List Value} {A1 A2 : List HP} {R : Value → List HP → Prop}
    (hn : Nat.blt d n = true) (hargs : evs F args = some vals) (hcall : ∀ w, (callFunc f vals.toArray).run P w = .ok (.enter f vals.toArray) w) (ht : TakeL A1 A A2)
    (hspec : ∀ w S, (sepL A1).sat S w → (∀ B, Sees w0 S0 B → Sees w S B) → (∀ B r, Take B A2 r → Sees w S B) → Tri P f vals.toArray w S R)
    (k : ∀ v A', R v A' → WL P w0 S0 n ops Q rest ((d, v) :: F) (A' ++ A2)) :
    WL P w0 S0 n ops Q (⟨some d, .call ⟨.value (.func f), args.toArray, ats⟩, T, pos, af, none⟩ :: rest) F A := by
  refine .step (fun a w ha hs K hK => ?_) rfl
  have hvals : args.map a.eval = vals := by
    have : ∀ (l : List Operand) (vs : List Value), evs F l = some vs → l.map a.eval = vs := by
      intro l
      induction l with
      | nil => intro vs h; simpa [evs] using h
      | cons t r ih =>
        intro vs h
        simp only [evs] at h
        cases ht : ev F t with
        | none => simp [ht] at h
        | some u =>
          cases hr : evs F r with
          | none => simp [ht, hr] at h
          | some us =>
            simp [ht, hr] at h
            subst h
            simp [ha.eval ht, ih us hr]
    exact this _ _ hargs
  obtain ⟨S, h1, h2, h3⟩ := hs
  obtain ⟨S1, S2, hu, hdis, h4, h5⟩ := ht.star h1
  have hsp := (hspec w S1 h4 (fun B hB => hB.down h2 h3 fun b hb => (hu b).2 (.inl hb)) (fun B r tB => by
    obtain ⟨S3, S4, hu', hd', h6, h7⟩ := tB.star h5
    exact ⟨S3, h6, fun b hb hb' => hdis b hb' ((hu' b).2 (.inl hb))⟩)).go
  have hrun : (execOp a.eval ⟨some d, .call ⟨.value (.func f), args.toArray, ats⟩, T, pos, af, none⟩).run P w = .ok (.enter f vals.toArray) w := by
    simp [execOp, resolve, Act.eval, Deferred.ofValue, invoke, hvals, hcall]
  unfold Oper.wp
  rw [hrun]
  refine hsp.mono ?_
  rintro e w' ⟨v, A', rfl, hR, S', h6, h7, h8⟩
  refine hK _ _ ((k v A' hR).go _ _ (ha.put (by simpa using hn) v) ?_)
  have hext : Ext S w w' := ⟨h7.os, h7.tape, h7.output, h7.size, fun b hb hnb => h7.keep b hb fun h => hnb ((hu b).2 (.inl h))⟩
  refine ⟨fun b => S' b ∨ S2 b, sepL_append ⟨S', S2, fun _ => Iff.rfl, fun b hb hb2 => ?_, h6, (sepL A2).loc h5 fun b hb => h7.keep b ((sepL A2).bnd h5 hb) fun h => hdis b h hb⟩, h2.step hext h3, fun b hb => ?_⟩
  · rcases h8 b hb with h | h
    · exact hdis b h hb2
    · have := (sepL A2).bnd h5 hb2; omega
  · rcases hb with hb | hb
    · rcases h8 b hb with h | h
      · exact h3 b ((hu b).2 (.inl h))
      · exact .inr (Nat.le_trans h2.size h)
    · exact h3 b ((hu b).2 (.inr hb))
end
end Go.BK
