/- A region whose order is open, with steps that make memory: what each step takes and what it gives is told apart, as tokens. No program in sight. -/
import Derived.Test.YtakffjjnogpolaaLibN
namespace Go.BK
open Go.RowKit

/-- What steps gave that nobody could tell ahead: a block, a value. -/
abbrev Ch := Nat → Nat × Value
def Ch.upd (c : Ch) (i : Nat) (x : Nat × Value) : Ch := fun k => bif Nat.beq k i then x else c k
theorem Ch.upd_self (c : Ch) (i : Nat) (x : Nat × Value) : c.upd i x i = x := by simp [Ch.upd]
def selF (f : Nat → Bool) : Nat → List HP → List HP
  | _, [] => []
  | k, x :: r => bif f k then x :: selF f (k + 1) r else selF f (k + 1) r
theorem selF_congr {f g : Nat → Bool} : ∀ (xs ys : List HP) (k : Nat), xs.length = ys.length → (∀ t, t < xs.length → f (k + t) = g (k + t)) → (∀ t, f (k + t) = true → xs[t]? = ys[t]?) → selF f k xs = selF g k ys := by
  intro xs
  induction xs with
  | nil => intro ys k hl _ _; cases ys with | nil => rfl | cons y s => simp at hl
  | cons x r ih =>
    intro ys k hl hfg he
    cases ys with
    | nil => simp at hl
    | cons y s =>
      have h1 := ih s (k + 1) (by simpa using hl) (fun t ht => by have := hfg (t + 1) (by simp; omega); rwa [show k + (t + 1) = k + 1 + t by omega] at this)
        (fun t ht => by have := he (t + 1) (by rw [show k + (t + 1) = k + 1 + t by omega]; exact ht); simpa using this)
      have h0 := hfg 0 (by simp)
      have h2 := he 0
      rw [Nat.add_zero] at h0 h2
      simp only [selF, ← h0]
      cases hf : f k with
      | true => have := h2 hf; simp at this; subst this; simp only [cond_true]; rw [h1]
      | false => simp only [cond_false]; exact h1
theorem selF_ext {f g : Nat → Bool} (xs : List HP) (k : Nat) (h : ∀ t, f t = g t) : selF f k xs = selF g k xs := selF_congr xs xs k rfl (fun t _ => h _) (fun _ _ => rfl)
theorem selF_split {f g h : Nat → Bool} (hd : ∀ t, f t = (g t || h t)) (hx : ∀ t, g t = true → h t = false) : ∀ (xs : List HP) (k : Nat) {S : BSet} {w : World}, (sepL (selF f k xs)).sat S w → (sepL (selF g k xs ++ selF h k xs)).sat S w := by
  intro xs
  induction xs with
  | nil => intro k S w hs; exact hs
  | cons x r ih =>
    intro k S w hs
    have hk := hd k
    have hkx := hx k
    simp only [selF] at hs ⊢
    cases hg : g k with
    | true =>
      rw [hg, Bool.true_or] at hk
      rw [hk] at hs
      rw [hkx hg]
      exact star_mono hs (fun _ h => h) fun _ h => ih (k + 1) h
    | false =>
      rw [hg, Bool.false_or] at hk
      rw [hk] at hs
      cases hh : h k with
      | true =>
        rw [hh] at hs
        simp only [cond_true, cond_false] at hs ⊢
        have h1 := star_mono hs (fun _ h => h) fun _ h => sepL_unappend (ih (k + 1) h)
        exact sepL_append (star_swap h1)
      | false =>
        rw [hh] at hs
        exact ih (k + 1) hs
theorem selF_join {f g h : Nat → Bool} (hd : ∀ t, f t = (g t || h t)) (hx : ∀ t, g t = true → h t = false) : ∀ (xs : List HP) (k : Nat) {S : BSet} {w : World}, (sepL (selF g k xs ++ selF h k xs)).sat S w → (sepL (selF f k xs)).sat S w := by
  intro xs
  induction xs with
  | nil => intro k S w hs; exact hs
  | cons x r ih =>
    intro k S w hs
    have hk := hd k
    have hkx := hx k
    simp only [selF] at hs ⊢
    cases hg : g k with
    | true =>
      rw [hg, Bool.true_or] at hk
      rw [hg, hkx hg] at hs
      rw [hk]
      exact star_mono hs (fun _ h => h) fun _ h => ih (k + 1) h
    | false =>
      rw [hg, Bool.false_or] at hk
      rw [hk]
      cases hh : h k with
      | true =>
        rw [hg, hh] at hs
        simp only [cond_true, cond_false] at hs ⊢
        have h1 := star_swap (sepL_unappend hs)
        exact star_mono h1 (fun _ h => h) fun _ h => ih (k + 1) (sepL_append h)
      | false =>
        rw [hg, hh] at hs
        exact ih (k + 1) hs
inductive SelT : List Bool → List HP → List HP → List HP → Prop
  | nil {R : List HP} : SelT [] [] R R
  | yes {bs : List Bool} {x : HP} {xs R out : List HP} : SelT bs xs R out → SelT (true :: bs) (x :: xs) R (x :: out)
  | no {bs : List Bool} {x : HP} {xs R out : List HP} : SelT bs xs R out → SelT (false :: bs) (x :: xs) R out
theorem SelT.eq {bs : List Bool} {xs R out : List HP} (h : SelT bs xs R out) : ∀ (f : Nat → Bool) (k : Nat), (∀ t, f (k + t) = bs.getD t false) → out = selF f k xs ++ R := by
  induction h with
  | nil => intro f k _; rfl
  | @yes bs x xs R out _ ih =>
    intro f k hf
    have h0 := hf 0
    rw [Nat.add_zero] at h0
    have := ih f (k + 1) fun t => by rw [show k + 1 + t = k + (t + 1) by omega, hf]; rfl
    rw [this]
    simp only [selF, h0]
    rfl
  | @no bs x xs R out _ ih =>
    intro f k hf
    have h0 := hf 0
    rw [Nat.add_zero] at h0
    have := ih f (k + 1) fun t => by rw [show k + 1 + t = k + (t + 1) by omega, hf]; rfl
    rw [this]
    simp only [selF, h0]
    rfl
theorem SelT.len {bs : List Bool} {xs R out : List HP} (h : SelT bs xs R out) : bs.length = xs.length := by
  induction h with
  | nil => rfl
  | yes _ ih => simp [ih]
  | no _ ih => simp [ih]
theorem SelT.at {bs : List Bool} {xs R out : List HP} (h : SelT bs xs R out) : out = selF (fun t => bs.getD t false) 0 xs ++ R := h.eq _ 0 fun t => by rw [Nat.zero_add]

structure NewW (P : Program) (w0 : World) (S0 : BSet) (n : Nat) (F : Fr) (A : List HP) (out : Nat × Value → List HP) (o : Oper) (val : Nat × Value → Value) : Prop where
  go : ∀ (Q : Exit → Act → World → Prop) (K : Act → World → Prop) (a : Act) (w : World), Agr n F a → St w0 S0 A w → (∀ x w', St w0 S0 (out x) w' → K (a.put o.dst (val x)) w') → o.wp P a w K Q

def preOk (ops : List Oper) (p : Option Nat) (i : Nat) : Bool := match p with
  | none => true
  | some q => ahead ops ops.length q i
def postOk (ops : List Oper) (q : Option Nat) (i : Nat) : Bool := match q with
  | none => true
  | some e => ahead ops ops.length i e
def depOk (ops : List Oper) (p : Option Nat) (i : Nat) : Bool := match p with
  | none => false
  | some q => q == i || ahead ops ops.length i q
def bmOk (ops : List Oper) (pros cons : List (Option Nat)) (i : Nat) (bm : List Bool) : Bool := (List.range bm.length).all fun t => !(bm.getD t false) || (preOk ops (pros.getD t none) i && postOk ops (cons.getD t none) i)
def noTok (pros cons : List (Option Nat)) (i : Nat) : Bool := (pros.all fun p => !(p == some i)) && cons.all fun p => !(p == some i)
def emOk (ops : List Oper) (pros cons : List (Option Nat)) (i : Nat) (cm pm bm : List Bool) : Bool :=
  bmOk ops pros cons i bm && pros.length == bm.length && pros.length == cm.length && pros.length == pm.length && pros.length == cons.length && (List.range pros.length).all fun t => (cm.getD t false == (cons.getD t none == some i)) && (pm.getD t false == (pros.getD t none == some i)) && !(bm.getD t false && cm.getD t false) && !(bm.getD t false && pm.getD t false)
def gOk (ops : List Oper) (pros cons : List (Option Nat)) : Bool := (pros.all fun p => p.all fun x => Nat.blt x ops.length) && (List.range cons.length).all fun t => match cons.getD t none with
  | none => true
  | some q => Nat.blt q ops.length && match pros.getD t none with
    | none => true
    | some p => ahead ops ops.length p q && !(p == q)
def nvAt (nv : List (Nat × (Nat × Value → Value))) (i : Nat) : Option (Nat × Value → Value) := match nv with
  | [] => none
  | (j, f) :: r => bif Nat.beq j i then some f else nvAt r i

section
variable (P : Program) (w0 : World) (S0 : BSet) (n : Nat) (ops : List Oper) (F0 : Fr) (tok : Ch → List HP) (pros cons : List (Option Nat)) (nv : List (Nat × (Nat × Value → Value))) (c : Ch)
inductive Par : Nat → Done → List Oper → Done → Prop
  | nil {i : Nat} {done : Done} : Par i done [] done
  | quiet {i : Nat} {done all : Done} {o : Oper} (v : Value) {rest : List Oper} (bm : List Bool) (hw : wantR done i o.guard = some true) (hm : (bmOk ops pros cons i bm && noTok pros cons i) = true) (hn : nvAt nv i = none)
      (h : ∀ R, ∃ A, SelT bm (tok c) R A ∧ EvW P w0 S0 n (preR F0 done i (aft o)) A o v) (k : Par (i + 1) ((o, v) :: done) rest all) : Par i done (o :: rest) all
  | skip {i : Nat} {done all : Done} {o : Oper} {rest : List Oper} (hw : wantR done i o.guard = some false) (hm : noTok pros cons i = true) (hn : nvAt nv i = none)
      (k : Par (i + 1) ((o, undef) :: done) rest all) : Par i done (o :: rest) all
  | eff {i : Nat} {done all : Done} {o : Oper} (v : Value) {rest : List Oper} (cm pm bm : List Bool) (hw : wantR done i o.guard = some true) (hn : nvAt nv i = none) (hm : emOk ops pros cons i cm pm bm = true)
      (h : ∀ R, ∃ A1 A A', SelT bm (tok c) R A1 ∧ SelT cm (tok c) A1 A ∧ SelT pm (tok c) A1 A' ∧ EffW P w0 S0 n (preR F0 done i (aft o)) A A' o v) (k : Par (i + 1) ((o, v) :: done) rest all) : Par i done (o :: rest) all
  | new {i : Nat} {done all : Done} {o : Oper} (val : Nat × Value → Value) {rest : List Oper} (cm pm bm : List Bool) (hw : wantR done i o.guard = some true) (hn : nvAt nv i = some val) (hm : emOk ops pros cons i cm pm bm = true)
      (h : ∀ R, ∃ A1 A out, SelT bm (tok c) R A1 ∧ SelT cm (tok c) A1 A ∧ (∀ x, SelT pm (tok (c.upd i x)) A1 (out x)) ∧ NewW P w0 S0 n (preR F0 done i (aft o)) A out o val) (k : Par (i + 1) ((o, val (c i)) :: done) rest all) : Par i done (o :: rest) all
end

/-- Alike, but where what step i gave may tell. -/
inductive IndA (ops : List Oper) (i : Nat) : Nat → Done → Done → Prop
  | nil {k : Nat} : IndA ops i k [] []
  | same {k : Nat} {x : Oper × Value} {r s : Done} : IndA ops i k r s → IndA ops i (k + 1) (x :: r) (x :: s)
  | skip {k : Nat} {o : Oper} {x y : Value} {r s : Done} : depOk ops (some k) i = true → IndA ops i k r s → IndA ops i (k + 1) ((o, x) :: r) ((o, y) :: s)
inductive IndT (ops : List Oper) (i : Nat) : List (Option Nat) → List HP → List HP → Prop
  | nil : IndT ops i [] [] []
  | same {p : Option Nat} {ps : List (Option Nat)} {x : HP} {r s : List HP} : IndT ops i ps r s → IndT ops i (p :: ps) (x :: r) (x :: s)
  | skip {p : Option Nat} {ps : List (Option Nat)} {x y : HP} {r s : List HP} : depOk ops p i = true → IndT ops i ps r s → IndT ops i (p :: ps) (x :: r) (y :: s)
theorem IndA.len {ops : List Oper} {i k : Nat} {r s : Done} (h : IndA ops i k r s) : r.length = k ∧ s.length = k ∨ True := .inr trivial
theorem IndA.at {ops : List Oper} {i k : Nat} {r s : Done} (h : IndA ops i k r s) : k = r.length → r.length = s.length ∧ ∀ j, depOk ops (some j) i = false → r.reverse[j]? = s.reverse[j]? := by
  induction h with
  | nil => intro _; exact ⟨rfl, fun _ _ => rfl⟩
  | @same k x r s _ ih =>
    intro hk
    obtain ⟨h1, h2⟩ := ih (by simpa using hk)
    refine ⟨by simp [h1], fun j hj => ?_⟩
    have := h2 j hj
    simp only [List.reverse_cons]
    by_cases hlt : j < r.length
    · rw [List.getElem?_append_left (by simpa using hlt), List.getElem?_append_left (by simpa [← h1] using hlt)]; exact this
    · rw [List.getElem?_append_right (by simpa using hlt), List.getElem?_append_right (by simpa [← h1] using hlt)]; simp [h1]
  | @skip k o x y r s hd _ ih =>
    intro hk
    simp only [List.length_cons] at hk
    obtain ⟨h1, h2⟩ := ih (by omega)
    refine ⟨by simp [h1], fun j hj => ?_⟩
    have := h2 j hj
    simp only [List.reverse_cons]
    by_cases hlt : j < r.length
    · rw [List.getElem?_append_left (by simpa using hlt), List.getElem?_append_left (by simpa [← h1] using hlt)]; exact this
    · by_cases he : j = r.length
      · have : j = k := by omega
        subst this; rw [hd] at hj; cases hj
      · rw [List.getElem?_eq_none (by simp; omega), List.getElem?_eq_none (by simp; omega)]
theorem IndT.at {ops : List Oper} {i : Nat} {ps : List (Option Nat)} {r s : List HP} (h : IndT ops i ps r s) : r.length = s.length ∧ r.length = ps.length ∧ ∀ t, depOk ops (ps.getD t none) i = false → r[t]? = s[t]? := by
  induction h with
  | nil => exact ⟨rfl, rfl, fun _ _ => rfl⟩
  | same _ ih =>
    obtain ⟨h1, h2, h3⟩ := ih
    refine ⟨by simp [h1], by simp [h2], fun t ht => ?_⟩
    cases t with
    | zero => rfl
    | succ t => simpa using h3 t (by simpa using ht)
  | skip hd _ ih =>
    obtain ⟨h1, h2, h3⟩ := ih
    refine ⟨by simp [h1], by simp [h2], fun t ht => ?_⟩
    cases t with
    | zero => simp [hd] at ht
    | succ t => simpa using h3 t (by simpa using ht)

section
variable {P : Program} {w0 : World} {S0 : BSet} {n : Nat} {ops : List Oper} {F0 : Fr} {tok : Ch → List HP} {pros cons : List (Option Nat)} {nv : List (Nat × (Nat × Value → Value))}
/-- One step, at its place. -/
def PStep (P : Program) (w0 : World) (S0 : BSet) (n : Nat) (ops : List Oper) (F0 : Fr) (tok : Ch → List HP) (pros cons : List (Option Nat)) (nv : List (Nat × (Nat × Value → Value))) (c : Ch) (all : Done) (i : Nat) (o : Oper) (v : Value) : Prop :=
  edgesOk i o = true ∧
  ((wants all o.guard = some true ∧ nvAt nv i = none ∧ ∃ bm, (bmOk ops pros cons i bm && noTok pros cons i) = true ∧ ∀ R, ∃ A, SelT bm (tok c) R A ∧ EvW P w0 S0 n (preF F0 all (aft o)) A o v) ∨
   (wants all o.guard = some false ∧ nvAt nv i = none ∧ noTok pros cons i = true ∧ v = undef) ∨
   (wants all o.guard = some true ∧ nvAt nv i = none ∧ ∃ cm pm bm, emOk ops pros cons i cm pm bm = true ∧ ∀ R, ∃ A1 A A', SelT bm (tok c) R A1 ∧ SelT cm (tok c) A1 A ∧ SelT pm (tok c) A1 A' ∧ EffW P w0 S0 n (preF F0 all (aft o)) A A' o v) ∨
   (wants all o.guard = some true ∧ ∃ val cm pm bm, nvAt nv i = some val ∧ v = val (c i) ∧ emOk ops pros cons i cm pm bm = true ∧
     ∀ R, ∃ A1 A out, SelT bm (tok c) R A1 ∧ SelT cm (tok c) A1 A ∧ (∀ x, SelT pm (tok (c.upd i x)) A1 (out x)) ∧ NewW P w0 S0 n (preF F0 all (aft o)) A out o val))
theorem Par.ok {c : Ch} {i0 : Nat} {done all : Done} {rest : List Oper} (h : Par P w0 S0 n ops F0 tok pros cons nv c i0 done rest all) : i0 = done.length → edgesAll i0 rest = true →
    ∃ more : Done, all.reverse = done.reverse ++ more ∧ more.map (·.1) = rest ∧ ∀ i o v, more[i]? = some (o, v) → PStep P w0 S0 n ops F0 tok pros cons nv c all.reverse (done.length + i) o v := by
  have key : ∀ {done all : Done} {o : Oper} {v : Value} {rest : List Oper}, (∃ more : Done, all.reverse = ((o, v) :: done).reverse ++ more ∧ more.map (·.1) = rest ∧ ∀ i o' v', more[i]? = some (o', v') → PStep P w0 S0 n ops F0 tok pros cons nv c all.reverse (((o, v) :: done).length + i) o' v') →
      (∀ more, all.reverse = done.reverse ++ more → PStep P w0 S0 n ops F0 tok pros cons nv c all.reverse done.length o v) → ∃ more : Done, all.reverse = done.reverse ++ more ∧ more.map (·.1) = o :: rest ∧ ∀ i o' v', more[i]? = some (o', v') → PStep P w0 S0 n ops F0 tok pros cons nv c all.reverse (done.length + i) o' v' := by
    intro done all o v rest ⟨more, h1, h2, h3⟩ h4
    have h1' : all.reverse = done.reverse ++ ((o, v) :: more) := by rw [h1]; simp
    refine ⟨(o, v) :: more, h1', by simp [h2], fun i o' v' hi => ?_⟩
    cases i with
    | zero => simp at hi; obtain ⟨rfl, rfl⟩ := hi; exact h4 _ h1'
    | succ i =>
      have := h3 i o' v' (by simpa using hi)
      rw [show done.length + (i + 1) = ((o, v) :: done).length + i from by simp; omega]
      exact this
  induction h with
  | nil => intro _ _; exact ⟨[], by simp, rfl, fun i o v h => by simp at h⟩
  | @quiet i0 done all o v rest bm hw hm hn h _ ih =>
    intro hi0 he
    simp only [edgesAll, Bool.and_eq_true] at he
    subst hi0
    have hg := he.1
    refine key (ih (by simp) he.2) fun more hmo => ⟨hg, .inl ⟨?_, hn, bm, hm, ?_⟩⟩
    · rw [hmo]; rw [wantR_eq] at hw; exact wants_mono hw
    · rw [hmo, preF_mono fun e he => by simpa using (edgesOk_lt hg e he).1]; rw [preR_eq] at h; exact h
  | @skip i0 done all o rest hw hm hn _ ih =>
    intro hi0 he
    simp only [edgesAll, Bool.and_eq_true] at he
    subst hi0
    refine key (ih (by simp) he.2) fun more hmo => ⟨he.1, .inr (.inl ⟨?_, hn, hm, rfl⟩)⟩
    rw [hmo]; rw [wantR_eq] at hw; exact wants_mono hw
  | @eff i0 done all o v rest cm pm bm hw hn hm h _ ih =>
    intro hi0 he
    simp only [edgesAll, Bool.and_eq_true] at he
    subst hi0
    have hg := he.1
    refine key (ih (by simp) he.2) fun more hmo => ⟨hg, .inr (.inr (.inl ⟨?_, hn, cm, pm, bm, hm, ?_⟩))⟩
    · rw [hmo]; rw [wantR_eq] at hw; exact wants_mono hw
    · rw [hmo, preF_mono fun e he => by simpa using (edgesOk_lt hg e he).1]; rw [preR_eq] at h; exact h
  | @new i0 done all o val rest cm pm bm hw hn hm h _ ih =>
    intro hi0 he
    simp only [edgesAll, Bool.and_eq_true] at he
    subst hi0
    have hg := he.1
    refine key (ih (by simp) he.2) fun more hmo => ⟨hg, .inr (.inr (.inr ⟨?_, val, cm, pm, bm, hn, rfl, hm, ?_⟩))⟩
    · rw [hmo]; rw [wantR_eq] at hw; exact wants_mono hw
    · rw [hmo, preF_mono fun e he => by simpa using (edgesOk_lt hg e he).1]; rw [preR_eq] at h; exact h

/-- Is a token there? -/
def av (pros cons : List (Option Nat)) (L : Array Bool) (t : Nat) : Bool :=
  (match pros.getD t none with
   | none => true
   | some p => L.getD p false) &&
  (match cons.getD t none with
   | none => true
   | some q => !L.getD q false)
theorem getD_set {L : Array Bool} {i j : Nat} (hi : i < L.size) : (L.setIfInBounds i true).getD j false = (L.getD j false || Nat.beq i j) := by
  simp only [Array.getD_eq_getD_getElem?, Array.getElem?_setIfInBounds]
  by_cases e : i = j
  · subst e; simp [hi]
  · rw [if_neg e, beqF e, Bool.or_false]
theorem St.sel {S0 : BSet} {w0 w : World} {A A' : List HP} (h : St w0 S0 A w) (k : ∀ S w, (sepL A).sat S w → (sepL A').sat S w) : St w0 S0 A' w := h.mono fun S w hs => k S w hs
theorem sepL_app_mono {A A' B : List HP} {S : BSet} {w : World} (h : (sepL (B ++ A)).sat S w) (k : ∀ S, (sepL A).sat S w → (sepL A').sat S w) : (sepL (B ++ A')).sat S w :=
  sepL_append (star_mono (sepL_unappend h) (fun _ h => h) k)
theorem bmOk_at {i : Nat} {bm : List Bool} (h : bmOk ops pros cons i bm = true) {t : Nat} (ht : bm.getD t false = true) : preOk ops (pros.getD t none) i = true ∧ postOk ops (cons.getD t none) i = true := by
  unfold bmOk at h
  rw [List.all_eq_true] at h
  have hlt : t < bm.length := by
    by_cases hl : t < bm.length
    · exact hl
    · rw [List.getD_eq_getElem?_getD, List.getElem?_eq_none (by omega)] at ht; cases ht
  have := h t (List.mem_range.2 hlt)
  rw [ht] at this
  simpa using this
theorem noTok_at {i : Nat} (h : noTok pros cons i = true) (t : Nat) : pros.getD t none ≠ some i ∧ cons.getD t none ≠ some i := by
  unfold noTok at h
  simp only [Bool.and_eq_true, List.all_eq_true, Bool.not_eq_true', beq_eq_false_iff_ne, ne_eq] at h
  constructor
  · intro he
    rw [List.getD_eq_getElem?_getD] at he
    cases hp : pros[t]? with
    | none => rw [hp] at he; cases he
    | some p => rw [hp] at he; simp at he; subst he; exact h.1 _ (List.mem_of_getElem? hp) rfl
  · intro he
    rw [List.getD_eq_getElem?_getD] at he
    cases hp : cons[t]? with
    | none => rw [hp] at he; cases he
    | some p => rw [hp] at he; simp at he; subst he; exact h.2 _ (List.mem_of_getElem? hp) rfl
theorem emOk_at {i : Nat} {cm pm bm : List Bool} (h : emOk ops pros cons i cm pm bm = true) : bmOk ops pros cons i bm = true ∧ ∀ t, cm.getD t false = (cons.getD t none == some i) ∧ pm.getD t false = (pros.getD t none == some i) ∧ (bm.getD t false = true → cm.getD t false = false ∧ pm.getD t false = false) := by
  unfold emOk at h
  simp only [Bool.and_eq_true, beq_iff_eq, List.all_eq_true] at h
  obtain ⟨⟨⟨⟨⟨h1, h0⟩, h2⟩, h3⟩, h4⟩, h5⟩ := h
  refine ⟨h1, fun t => ?_⟩
  by_cases hlt : t < pros.length
  · have := h5 t (List.mem_range.2 hlt)
    obtain ⟨⟨⟨ha, hb⟩, hc⟩, hd⟩ := this
    refine ⟨ha, hb, fun hbm => ?_⟩
    rw [hbm] at hc hd
    constructor
    · cases hx : cm.getD t false with
      | false => rfl
      | true => rw [hx] at hc; cases hc
    · cases hx : pm.getD t false with
      | false => rfl
      | true => rw [hx] at hd; cases hd
  · refine ⟨?_, ?_, fun h => by rw [List.getD_eq_getElem?_getD, List.getElem?_eq_none (by omega)] at h; cases h⟩
    · rw [List.getD_eq_getElem?_getD, List.getElem?_eq_none (by omega), List.getD_eq_getElem?_getD, List.getElem?_eq_none (by omega)]; rfl
    · rw [List.getD_eq_getElem?_getD, List.getElem?_eq_none (by omega), List.getD_eq_getElem?_getD, List.getElem?_eq_none (by omega)]; rfl

/-- Where a walk through the region stands. -/
structure PMid (w0 : World) (S0 : BSet) (n : Nat) (ops : List Oper) (F0 : Fr) (tok : Ch → List HP) (pros cons : List (Option Nat)) (all : Ch → Done) (L : Array Bool) (a : Act) (w : World) : Prop where
  size : L.size = ops.length
  down : ∀ (i : Nat) (o : Oper), L[i]? = some true → ops[i]? = some o → ∀ e ∈ aft o, L[e.on]? = some true
  base : Agr n F0 a
  st : ∃ c, (∀ (i : Nat) (o : Oper) (v : Value) (d : Nat), L[i]? = some true → (all c)[i]? = some (o, v) → o.dst = some d → a.tmps[d]? = some v) ∧ St w0 S0 (selF (av pros cons L) 0 (tok c)) w
theorem par_all {Q : Exit → Act → World → Prop} {all : Ch → Done} (hall : ∀ c, (all c).map (·.1) = ops) (hok : ∀ c i o v, (all c)[i]? = some (o, v) → PStep P w0 S0 n ops F0 tok pros cons nv c (all c) i o v) (hslots : slotsOk F0 ops [] = true) (hdst : ops.all (fun o => o.dst.all fun d => Nat.blt d n) = true)
    (hgok : gOk ops pros cons = true) (hlen : ∀ c, (tok c).length = pros.length) (hindA : ∀ i, nvAt nv i ≠ none → ∀ c x j, depOk ops (some j) i = false → (all (c.upd i x))[j]? = (all c)[j]?)
    (hindT : ∀ i, nvAt nv i ≠ none → ∀ c x t, depOk ops (pros.getD t none) i = false → (tok (c.upd i x))[t]? = (tok c)[t]?)
    (hfin : ∀ c a w, Agr n (allF F0 (all c)) a → St w0 S0 (selF (fun t => (cons.getD t none).isNone) 0 (tok c)) w → Q .normal a w) :
    ∀ (fuel : Nat) (L : Array Bool) (a : Act) (w : World), ((List.range ops.length).countP fun i => !L.getD i false) ≤ fuel → PMid w0 S0 n ops F0 tok pros cons all L a w → wpAny P .any ops.toArray Q fuel L a w := by
  have hall' : ∀ (c : Ch) (i : Nat) (o : Oper), ops[i]? = some o → ∃ v, (all c)[i]? = some (o, v) := by
    intro c i o h
    rw [← hall c, List.getElem?_map] at h
    cases ha : (all c)[i]? with
    | none => rw [ha] at h; cases h
    | some x => rw [ha] at h; simp at h; exact ⟨x.2, by rw [← h]⟩
  have c0 : Ch := fun _ => (0, undef)
  have hlt : ∀ (i : Nat) (o : Oper), ops[i]? = some o → ∀ e ∈ aft o, e.on < i ∧ Region.binds .any e = true := by
    intro i o h
    obtain ⟨v, hv⟩ := hall' c0 i o h
    exact edgesOk_lt (hok c0 i o v hv).1
  have hb : ∀ o ∈ ops, ∀ e ∈ aft o, Region.binds .any e = true := by
    intro o ho e he
    obtain ⟨i, hi⟩ := List.getElem?_of_mem ho
    exact (hlt i o hi e he).2
  have done : ∀ L a w, PMid w0 S0 n ops F0 tok pros cons all L a w → Region.ready .any ops.toArray L = [] → Q .normal a w := by
    intro L a w hm hr
    have hl := ready_nil hr hm.size (fun i o h e he => (hlt i o h e he).1)
    obtain ⟨c, htold, hst⟩ := hm.st
    have hin : ∀ (i : Nat) (o : Oper) (v : Value), (all c)[i]? = some (o, v) → i < ops.length := fun i o v ha => by have := (List.getElem?_eq_some_iff.1 ha).1; rw [← hall c]; simpa using this
    refine hfin c a w ⟨hm.base.defers, hm.base.size, fun t u ht => ?_⟩ ?_
    · rcases allF_get ht with h | ⟨i, o, ha, hd⟩
      · exact hm.base.get t u h
      · exact htold i o u t (hl i (hin i o u ha)) ha hd
    · refine hst.sel fun S w hs => ?_
      have hgo := hgok
      unfold gOk at hgo
      rw [Bool.and_eq_true, List.all_eq_true, List.all_eq_true] at hgo
      have hav : ∀ t, av pros cons L t = (cons.getD t none).isNone := by
        intro t
        unfold av
        have h1 : (match pros.getD t none with | none => true | some p => L.getD p false) = true := by
          cases hp : pros.getD t none with
          | none => rfl
          | some p =>
            rw [List.getD_eq_getElem?_getD] at hp
            cases hq : pros[t]? with
            | none => rw [hq] at hp; cases hp
            | some p' =>
              rw [hq] at hp; simp at hp; subst hp
              have := hgo.1 _ (List.mem_of_getElem? hq)
              exact listedB.2 (hl p (by simpa using this))
        rw [h1, Bool.true_and]
        cases hc : cons.getD t none with
        | none => rfl
        | some q =>
          have htc : t < cons.length := by
            by_cases h : t < cons.length
            · exact h
            · rw [List.getD_eq_getElem?_getD, List.getElem?_eq_none (by omega)] at hc; cases hc
          have := hgo.2 t (List.mem_range.2 htc)
          rw [hc] at this
          simp only [Bool.and_eq_true] at this
          have hq : q < ops.length := by simpa using this.1
          have := listedB.2 (hl q hq)
          simp [this]
      rw [selF_ext _ _ hav] at hs
      exact hs
  intro fuel
  induction fuel with
  | zero =>
    intro L a w hc hm
    have hr : Region.ready .any ops.toArray L = [] := by
      rw [List.eq_nil_iff_forall_not_mem]
      intro i hi
      obtain ⟨h1, h2, _⟩ := mem_ready hi hb
      have : (List.range ops.length).countP (fun i => !L.getD i false) = 0 := by omega
      rw [List.countP_eq_zero] at this
      have h3 := this i (List.mem_range.2 h1)
      simp only [Bool.not_eq_true', Bool.not_eq_false] at h3
      exact h2 (listedB.1 h3)
    exact ⟨hr, done L a w hm hr⟩
  | succ fuel ih =>
    intro L a w hc hm
    refine ⟨done L a w hm, fun i hi => ?_⟩
    obtain ⟨hilt, hnot, o, ho, hpre⟩ := mem_ready hi hb
    obtain ⟨c, htold, hst⟩ := hm.st
    obtain ⟨v, hv⟩ := hall' c i o ho
    obtain ⟨hedge, hstep⟩ := hok c i o v hv
    have hiL : i < L.size := by rw [hm.size]; exact hilt
    let L' := L.setIfInBounds i true
    have hL' : ∀ j, L'[j]? = if i = j then some true else L[j]? := by
      intro j
      show (L.setIfInBounds i true)[j]? = _
      rw [Array.getElem?_setIfInBounds]
      by_cases e : i = j
      · simp [e]; omega
      · simp [e]
    have hcnt : ((List.range ops.length).countP fun j => !L'.getD j false) ≤ fuel := by
      have h1 : ((List.range ops.length).countP fun j => !L'.getD j false) < ((List.range ops.length).countP fun j => !L.getD j false) := by
        have hsplit : List.range ops.length = List.range i ++ i :: List.range' (i + 1) (ops.length - (i + 1)) := by
          rw [List.range_eq_range', List.range_eq_range', ← List.range'_succ]
          rw [show ops.length - (i + 1) + 1 = ops.length - i from by omega]
          have := List.range'_append (s := 0) (m := i) (n := ops.length - i) (step := 1)
          simp at this
          rw [this]
          congr 1; omega
        rw [hsplit]
        simp only [List.countP_append, List.countP_cons]
        have e1 : ∀ l : List Nat, i ∉ l → l.countP (fun j => !L'.getD j false) = l.countP (fun j => !L.getD j false) := by
          intro l hl
          apply List.countP_congr
          intro j hj
          have hne : i ≠ j := fun e => hl (e ▸ hj)
          simp only [Array.getD_eq_getD_getElem?, hL' j, hne, ↓reduceIte]
        rw [e1 _ (by simp), e1 _ (by simp; omega)]
        have h2 : (!L'.getD i false) = false := by simp [Array.getD_eq_getD_getElem?, hL' i]
        have h3 : (!L.getD i false) = true := by
          cases hb : L.getD i false with
          | false => rfl
          | true => exact absurd (listedB.1 hb) hnot
        simp only [h2, h3, Bool.false_eq_true, ↓reduceIte]
        omega
      omega
    have hfr : Agr n (preF F0 (all c) (aft o)) a := ⟨hm.base.defers, hm.base.size, fun t u ht => by
      rcases preF_get ht with h | ⟨e, he, o', d, ha, hd, rfl⟩
      · exact hm.base.get t u h
      · exact htold e.on o' u d (hpre e he) ha hd⟩
    have hdown' : ∀ (j : Nat) (o' : Oper), L'[j]? = some true → ops[j]? = some o' → ∀ e ∈ aft o', L'[e.on]? = some true := by
      intro j o' hj ho' e he
      rw [hL'] at hj ⊢
      split
      · rfl
      · by_cases e1 : i = j
        · subst e1; rw [ho] at ho'; cases ho'; exact hpre e he
        · rw [if_neg e1] at hj; exact hm.down j o' hj ho' e he
    have hput : ∀ (c' : Ch) (u : Value), (all c')[i]? = some (o, u) → (∀ (j : Nat) (o' : Oper) (v' : Value) (d : Nat), L[j]? = some true → (all c')[j]? = some (o', v') → o'.dst = some d → a.tmps[d]? = some v') →
        (Agr n F0 (a.put o.dst u) ∧ ∀ (j : Nat) (o' : Oper) (v' : Value) (d : Nat), L'[j]? = some true → (all c')[j]? = some (o', v') → o'.dst = some d → (a.put o.dst u).tmps[d]? = some v') := by
      intro c' u hv' htold'
      obtain ⟨hs1, hs2⟩ := slotsOk_get hslots
      cases hd : o.dst with
      | none =>
        refine ⟨hm.base, fun j o' v' d hj ha hd' => ?_⟩
        rw [hL'] at hj
        by_cases e1 : i = j
        · subst e1; rw [hv'] at ha; cases ha; rw [hd] at hd'; cases hd'
        · rw [if_neg e1] at hj; exact htold' j o' v' d hj ha hd'
      | some d0 =>
        have hd0 : d0 < n := by
          rw [List.all_eq_true] at hdst
          have := hdst o (List.mem_of_getElem? ho)
          rw [hd] at this; simpa using this
        refine ⟨⟨hm.base.defers, by simp [Act.put, hm.base.size], fun t u' ht => ?_⟩, fun j o' v' d hj ha hd' => ?_⟩
        · have hne : d0 ≠ t := fun e => by subst e; rw [(hs1 i o d0 ho hd).2] at ht; cases ht
          simp only [Act.put, Array.getElem?_setIfInBounds, hne, ↓reduceIte]
          exact hm.base.get t u' ht
        · rw [hL'] at hj
          have hoj : ops[j]? = some o' := by rw [← hall c', List.getElem?_map, ha]; rfl
          by_cases e1 : i = j
          · subst e1
            rw [hv'] at ha; cases ha
            rw [hd] at hd'; cases hd'
            simp [Act.put, hm.base.size, hd0]
          · rw [if_neg e1] at hj
            have hne : d0 ≠ d := fun e => e1 (by subst e; exact hs2 i j o o' d0 ho hoj hd hd')
            simp only [Act.put, Array.getElem?_setIfInBounds, hne, ↓reduceIte]
            exact htold' j o' v' d hj ha hd'
    have hwant : ∀ b, wants (all c) o.guard = some b → Region.wanted o (yielded ops.toArray a.tmps) = b := by
      intro b hw
      cases hg : o.guard with
      | none => rw [hg] at hw; simp [wants] at hw; simp [Region.wanted, hg, hw]
      | some g =>
        obtain ⟨j, b0⟩ := g
        rw [hg] at hw
        have hgj : ∃ e ∈ aft o, e.on = j := by
          simp only [edgesOk, hg, Option.all_some, Bool.and_eq_true, List.any_eq_true, beq_iff_eq] at hedge
          exact hedge.1
        obtain ⟨e, he, rfl⟩ := hgj
        simp only [wants] at hw
        cases ha : (all c)[e.on]? with
        | none => rw [ha] at hw; cases hw
        | some x =>
          obtain ⟨o', v'⟩ := x
          rw [ha] at hw
          cases v' with
          | bool b' =>
            simp only [] at hw
            cases hd : o'.dst with
            | none => simp [hd] at hw
            | some d =>
              simp [hd] at hw
              have h1 := htold e.on o' (.bool b') d (hpre e he) ha hd
              have hoj : ops[e.on]? = some o' := by rw [← hall c, List.getElem?_map, ha]; rfl
              simp [Region.wanted, hg, yielded, hoj, hd, h1, hw]
          | _ => simp at hw
    have hLi : L.getD i false = false := by
      cases hb : L.getD i false with
      | false => rfl
      | true => exact absurd (listedB.1 hb) hnot
    have ain : ∀ j, ahead ops ops.length j i = true → L.getD j false = true := fun j h => listedB.2 (ahead_in (L := fun x => L[x]? = some true) (fun x o' hx ho' => hm.down x o' hx ho') ops.length j i h (fun o' ho' => by rw [ho] at ho'; cases ho'; exact hpre))
    have aout : ∀ j, ahead ops ops.length i j = true → L.getD j false = false := fun j h => by
      cases hj : L.getD j false with
      | false => rfl
      | true => exact absurd (ahead_in (L := fun x => L[x]? = some true) (fun x o' hx ho' => hm.down x o' hx ho') ops.length i j h (fun o' ho' => hm.down j o' (listedB.1 hj) ho')) hnot
    have hgo := hgok
    unfold gOk at hgo
    rw [Bool.and_eq_true, List.all_eq_true, List.all_eq_true] at hgo
    -- what somebody takes was made ahead of him
    have hpc : ∀ t p q, pros.getD t none = some p → cons.getD t none = some q → ahead ops ops.length p q = true ∧ p ≠ q := by
      intro t p q hp hq
      have htc : t < cons.length := by
        by_cases h : t < cons.length
        · exact h
        · rw [List.getD_eq_getElem?_getD, List.getElem?_eq_none (by omega)] at hq; cases hq
      have := hgo.2 t (List.mem_range.2 htc)
      rw [hq, hp] at this
      simp only [Bool.and_eq_true, Bool.not_eq_true', beq_eq_false_iff_ne] at this
      exact this.2
    have hset : ∀ j, L'.getD j false = (L.getD j false || Nat.beq i j) := fun j => getD_set hiL
    have havb : ∀ (bm : List Bool), bmOk ops pros cons i bm = true → ∀ t, bm.getD t false = true → av pros cons L t = true := by
      intro bm hbm t ht
      obtain ⟨h1, h2⟩ := bmOk_at hbm ht
      unfold av
      rw [Bool.and_eq_true]
      constructor
      · cases hp : pros.getD t none with
        | none => rfl
        | some p => rw [hp] at h1; exact ain p h1
      · cases hq : cons.getD t none with
        | none => rfl
        | some q => rw [hq] at h2; simp only []; rw [aout q h2]; rfl
    have hsame : ∀ t, pros.getD t none ≠ some i → cons.getD t none ≠ some i → av pros cons L' t = av pros cons L t := by
      intro t h1 h2
      unfold av
      congr 1
      · cases hp : pros.getD t none with
        | none => rfl
        | some p => simp only []; rw [hset, beqF (fun e => h1 (by rw [hp, e])), Bool.or_false]
      · cases hq : cons.getD t none with
        | none => rfl
        | some q => simp only []; rw [hset, beqF (fun e => h2 (by rw [hq, e])), Bool.or_false]
    -- what step i takes
    have htaken : ∀ t, cons.getD t none = some i → av pros cons L t = true ∧ av pros cons L' t = false := by
      intro t h
      constructor
      · unfold av
        rw [h]
        simp only [hLi, Bool.not_false, Bool.and_true]
        cases hp : pros.getD t none with
        | none => rfl
        | some p => exact ain p (hpc t p i hp h).1
      · unfold av
        rw [h]
        simp only [hset, Nat.beq_refl, Bool.or_true, Bool.not_true, Bool.and_false]
    have hmade : ∀ t, pros.getD t none = some i → av pros cons L t = false ∧ av pros cons L' t = true := by
      intro t h
      constructor
      · unfold av; rw [h]; simp only [hLi, Bool.false_and]
      · unfold av
        rw [h]
        simp only [hset, Nat.beq_refl, Bool.or_true, Bool.true_and]
        cases hq : cons.getD t none with
        | none => rfl
        | some q =>
          have h2 := hpc t i q h hq
          simp only []
          rw [aout q h2.1, beqF h2.2]; rfl
    have hopsA : ops.toArray[i]? = some o := by simpa using ho
    have parts : ∀ (cm pm bm : List Bool), emOk ops pros cons i cm pm bm = true →
        (∀ t, av pros cons L t = (cm.getD t false || (bm.getD t false || (av pros cons L t && !cm.getD t false && !bm.getD t false)))) ∧ (∀ t, av pros cons L' t = (pm.getD t false || (bm.getD t false || (av pros cons L t && !cm.getD t false && !bm.getD t false)))) ∧
        (∀ t, cm.getD t false = true → (bm.getD t false || (av pros cons L t && !cm.getD t false && !bm.getD t false)) = false) ∧ (∀ t, pm.getD t false = true → (bm.getD t false || (av pros cons L t && !cm.getD t false && !bm.getD t false)) = false) ∧
        ∀ t, bm.getD t false = true → (av pros cons L t && !cm.getD t false && !bm.getD t false) = false := by
      intro cm pm bm hem
      obtain ⟨hbm, hat⟩ := emOk_at hem
      have hb := havb bm hbm
      refine ⟨fun t => ?_, fun t => ?_, fun t => ?_, fun t => ?_, fun t => ?_⟩
      · obtain ⟨h1, h2, h3⟩ := hat t
        have h4 := hb t
        have h5 := htaken t
        cases hcm : cm.getD t false with
        | true => rw [hcm] at h1; have := h5 (by simpa using h1.symm); rw [this.1]; rfl
        | false => cases hbt : bm.getD t false with
          | true => rw [h4 hbt]; rfl
          | false => simp
      · obtain ⟨h1, h2, h3⟩ := hat t
        have h4 := hb t
        have h5 := htaken t
        have h6 := hmade t
        cases hpm : pm.getD t false with
        | true => rw [hpm] at h2; have := h6 (by simpa using h2.symm); rw [this.2]; rfl
        | false =>
          rw [hpm] at h2
          have hp : pros.getD t none ≠ some i := by simpa using h2.symm
          cases hcm : cm.getD t false with
          | true =>
            rw [hcm] at h1
            have h7 := h5 (by simpa using h1.symm)
            rw [h7.2]
            cases hbt : bm.getD t false with
            | true => have := (h3 hbt).1; rw [hcm] at this; cases this
            | false => simp
          | false =>
            rw [hcm] at h1
            have hq : cons.getD t none ≠ some i := by simpa using h1.symm
            rw [hsame t hp hq]
            cases hbt : bm.getD t false with
            | true => rw [h4 hbt]; rfl
            | false => simp
      · obtain ⟨h1, h2, h3⟩ := hat t
        intro hcm
        cases hbt : bm.getD t false with
        | true => have := (h3 hbt).1; rw [hcm] at this; cases this
        | false => rw [hcm]; simp
      · obtain ⟨h1, h2, h3⟩ := hat t
        intro hpm
        rw [hpm] at h2
        have h6 := hmade t (by simpa using h2.symm)
        cases hbt : bm.getD t false with
        | true => have := (h3 hbt).2; rw [hpm] at this; cases this
        | false => rw [h6.1]; rfl
      · intro hbt; rw [hbt]; simp
    unfold wpOp
    rw [hopsA]
    simp only []
    rcases hstep with ⟨hw, hn, bm, hm2, hR⟩ | ⟨hw, hn, hnt, hvu⟩ | ⟨hw, hn, cm, pm, bm, hem, hR⟩ | ⟨hw, val, cm, pm, bm, hnv, hvv, hem, hR⟩
    · rw [if_pos (hwant true hw)]
      rw [Bool.and_eq_true] at hm2
      obtain ⟨A, hA, hev⟩ := hR (selF (fun t => av pros cons L t && !bm.getD t false) 0 (tok c))
      have eA := hA.at
      have hb := havb bm hm2.1
      have hd : ∀ t, av pros cons L t = (bm.getD t false || (av pros cons L t && !bm.getD t false)) := fun t => by
        cases hbt : bm.getD t false with
        | true => rw [hb t hbt]; rfl
        | false => simp
      have hx : ∀ t, bm.getD t false = true → (av pros cons L t && !bm.getD t false) = false := fun t h => by rw [h]; simp
      refine .inl (hev.go _ _ a w hfr (hst.sel fun S w hs => by rw [eA]; exact selF_split hd hx _ 0 hs) fun w' hs' => ih L' _ w' hcnt ⟨by simp [L', hm.size], hdown', (hput c v hv htold).1, c, (hput c v hv htold).2, hs'.sel fun S w hs => ?_⟩)
      rw [eA] at hs
      have := selF_join hd hx _ 0 hs
      rwa [selF_ext _ _ (fun t => (hsame t (noTok_at hm2.2 t).1 (noTok_at hm2.2 t).2))]
    · rw [if_neg (by rw [hwant false hw]; simp)]
      subst hvu
      refine ih L' _ w hcnt ⟨by simp [L', hm.size], hdown', (hput c undef hv htold).1, c, (hput c undef hv htold).2, hst.sel fun S w hs => ?_⟩
      rwa [selF_ext _ _ (fun t => (hsame t (noTok_at hnt t).1 (noTok_at hnt t).2))]
    · rw [if_pos (hwant true hw)]
      obtain ⟨p1, p2, p3, p4, p5⟩ := parts cm pm bm hem
      obtain ⟨A1, A, A', h1, h2, h3, hE⟩ := hR (selF (fun t => av pros cons L t && !cm.getD t false && !bm.getD t false) 0 (tok c))
      have e1 := h1.at
      have e2 := h2.at
      have e3 := h3.at
      rw [e1] at e2 e3
      refine .inl (hE.go _ _ a w hfr (hst.sel fun S w hs => ?_) fun w' hs' => ih L' _ w' hcnt ⟨by simp [L', hm.size], hdown', (hput c v hv htold).1, c, (hput c v hv htold).2, hs'.sel fun S w hs => ?_⟩)
      · rw [e2]
        exact sepL_app_mono (selF_split p1 p3 _ 0 hs) fun _ h => selF_split (fun t => rfl) p5 _ 0 h
      · rw [e3] at hs
        exact selF_join p2 p4 _ 0 (sepL_app_mono hs fun _ h => selF_join (f := fun t => bm.getD t false || (av pros cons L t && !cm.getD t false && !bm.getD t false)) (fun t => rfl) p5 _ 0 h)
    · rw [if_pos (hwant true hw)]
      obtain ⟨p1, p2, p3, p4, p5⟩ := parts cm pm bm hem
      obtain ⟨A1, A, out, h1, h2, h3, hE⟩ := hR (selF (fun t => av pros cons L t && !cm.getD t false && !bm.getD t false) 0 (tok c))
      have e1 := h1.at
      have e2 := h2.at
      rw [e1] at e2
      have hne : nvAt nv i ≠ none := by rw [hnv]; simp
      -- what was told doesn't hang on what step i gives
      have hfar : ∀ j, L.getD j false = true → depOk ops (some j) i = false := by
        intro j hj
        unfold depOk
        simp only [Bool.or_eq_false_iff, beq_eq_false_iff_ne]
        refine ⟨fun e => by (subst e; rw [hLi] at hj; cases hj), ?_⟩
        cases ha : ahead ops ops.length i j with
        | false => rfl
        | true => rw [aout j ha] at hj; cases hj
      have hfarT : ∀ t, av pros cons L t = true → depOk ops (pros.getD t none) i = false := by
        intro t ht
        cases hp : pros.getD t none with
        | none => rfl
        | some p =>
          unfold av at ht
          rw [hp, Bool.and_eq_true] at ht
          exact hfar p ht.1
      refine .inl (hE.go _ _ a w hfr (hst.sel fun S w hs => ?_) fun x w' hs' => ?_)
      · rw [e2]
        exact sepL_app_mono (selF_split p1 p3 _ 0 hs) fun _ h => selF_split (fun t => rfl) p5 _ 0 h
      · obtain ⟨v', hv'⟩ := hall' (c.upd i x) i o ho
        have hval : v' = val x := by
          obtain ⟨_, hst'⟩ := hok (c.upd i x) i o v' hv'
          rcases hst' with ⟨_, hn, _⟩ | ⟨_, hn, _⟩ | ⟨_, hn, _⟩ | ⟨_, val', _, _, _, hnv', hvv', _⟩
          · rw [hnv] at hn; cases hn
          · rw [hnv] at hn; cases hn
          · rw [hnv] at hn; cases hn
          · rw [hnv] at hnv'; cases hnv'
            rw [hvv', Ch.upd_self]
        subst hval
        have htold' : ∀ (j : Nat) (o' : Oper) (v' : Value) (d : Nat), L[j]? = some true → (all (c.upd i x))[j]? = some (o', v') → o'.dst = some d → a.tmps[d]? = some v' := by
          intro j o' v' d hj ha hd
          rw [hindA i hne c x j (hfar j (listedB.2 hj))] at ha
          exact htold j o' v' d hj ha hd
        refine ih L' _ w' hcnt ⟨by simp [L', hm.size], hdown', (hput _ _ hv' htold').1, c.upd i x, (hput _ _ hv' htold').2, hs'.sel fun S w hs => ?_⟩
        have e3 := (h3 x).at
        rw [e1] at e3
        rw [e3] at hs
        have l1 : (tok c).length = (tok (c.upd i x)).length := by rw [hlen, hlen]
        rw [selF_congr (f := fun t => bm.getD t false) (g := fun t => bm.getD t false) (tok c) (tok (c.upd i x)) 0 l1 (fun _ _ => rfl) (fun t ht => (hindT i hne c x t (hfarT t (havb bm (emOk_at hem).1 t (by simpa using ht)))).symm),
          selF_congr (f := fun t => av pros cons L t && !cm.getD t false && !bm.getD t false) (g := fun t => av pros cons L t && !cm.getD t false && !bm.getD t false) (tok c) (tok (c.upd i x)) 0 l1 (fun _ _ => rfl) (fun t ht => (hindT i hne c x t (hfarT t (by simp at ht; exact ht.1.1))).symm)] at hs
        exact selF_join p2 p4 _ 0 (sepL_app_mono hs fun _ h => selF_join (f := fun t => bm.getD t false || (av pros cons L t && !cm.getD t false && !bm.getD t false)) (fun t => rfl) p5 _ 0 h)
/-- For each step that gives something new. -/
inductive AllN (p : Nat → Prop) : List (Nat × (Nat × Value → Value)) → Prop
  | nil : AllN p []
  | cons {i : Nat} {f : Nat × Value → Value} {r : List (Nat × (Nat × Value → Value))} : p i → AllN p r → AllN p ((i, f) :: r)
theorem AllN.at {p : Nat → Prop} {nv : List (Nat × (Nat × Value → Value))} (h : AllN p nv) : ∀ i, nvAt nv i ≠ none → p i := by
  induction h with
  | nil => intro i hi; exact absurd rfl hi
  | @cons j f r hj _ ih =>
    intro i hi
    simp only [nvAt] at hi
    by_cases e : j = i
    · subst e; exact hj
    · rw [beqF e] at hi; exact ih i hi
theorem WC.par {id : Nat} {Q : Exit → Act → World → Prop} {F : Fr} {A : List HP} {all : Ch → Done} (F0 : Fr) (tok : Ch → List HP) (pros cons : List (Option Nat)) (nv : List (Nat × (Nat × Value → Value))) (hmix : P.follows .mixedOrders = true) (hr : Restr (dsts ops) [] F F0) (hA : ∀ c, SelT (pros.map fun p => p.isNone) (tok c) [] A)
    (hslots : slotsOk F0 ops [] = true) (hdst : ops.all (fun o => o.dst.all fun d => Nat.blt d n) = true) (hg : (edgesAll 0 ops && gOk ops pros cons) = true)
    (hd : ∀ c, Par P w0 S0 n ops F0 tok pros cons nv c 0 [] ops (all c))
    (hindA : AllN (fun i => ∀ c x, IndA ops i ops.length (all (c.upd i x)) (all c)) nv) (hindT : AllN (fun i => ∀ c x, IndT ops i pros (tok (c.upd i x)) (tok c)) nv)
    (hlen : ∀ c, (tok c).length = pros.length)
    (h : ∀ c, ∃ Z, SelT (cons.map fun p => p.isNone) (tok c) [] Z ∧ WE w0 S0 n Q .normal (allF F0 (all c)) Z) : WC P w0 S0 n (.region id ops.toArray true) Q F A := by
  refine ⟨fun a w ha hs => wp_region_any hmix ?_⟩
  rw [Bool.and_eq_true] at hg
  have hsub : Sub F0 F := Sub.refl' hr F fun t v h => hr.get t v rfl h
  have hall : ∀ c, (all c).reverse.map (·.1) = ops := fun c => by
    obtain ⟨more, h1, h2, _⟩ := (hd c).ok rfl hg.1
    simp only [List.reverse_nil, List.nil_append] at h1
    rw [h1]; exact h2
  have hal : ∀ c, (all c).length = ops.length := fun c => by have := congrArg List.length (hall c); simpa using this
  have hg1 : ∀ t, (pros.map fun p => p.isNone).getD t false = true → (pros.getD t none).isNone = true := by
    intro t ht
    rw [List.getD_eq_getElem?_getD, List.getElem?_map] at ht
    rw [List.getD_eq_getElem?_getD]
    cases hp : pros[t]? with
    | none => rfl
    | some p => rw [hp] at ht; exact ht
  refine par_all (w0 := w0) (S0 := S0) (P := P) (all := fun c => (all c).reverse) (tok := tok) (pros := pros) (cons := cons) (nv := nv) hall (fun c i o v hi => ?_) hslots hdst hg.2 hlen (fun i hi c x j hj => ?_) (fun i hi c x t ht => ((hindT.at i hi) c x).at.2.2 t ht) (fun c a w ha hs => ?_) _ _ _ _ ?_ ⟨by simp, ?_, ha.sub hsub, ?_⟩
  · obtain ⟨more, h1, h2, h3⟩ := (hd c).ok rfl hg.1
    simp only [List.reverse_nil, List.nil_append] at h1
    have := h3 i o v (by rw [← h1]; exact hi)
    simpa using this
  · exact (((hindA.at i hi) c x).at (hal _).symm).2 j hj
  · obtain ⟨Z, hZ, hE⟩ := h c
    refine hE.go a w ⟨ha.defers, ha.size, fun t u ht => ha.get t u (allF_rev hslots (hall c) ht)⟩ (hs.sel fun S w hs => ?_)
    have := hZ.at
    rw [this, List.append_nil]
    have hcl : cons.length = (tok c).length := by have := hZ.len; simpa using this
    rw [selF_congr (g := fun t => (cons.map fun p => p.isNone).getD t false) (tok c) (tok c) 0 rfl (fun t ht => ?_) (fun _ _ => rfl)] at hs
    · exact hs
    · rw [Nat.zero_add, List.getD_eq_getElem?_getD, List.getD_eq_getElem?_getD, List.getElem?_map, List.getElem?_eq_getElem (by omega)]; rfl
  · exact Nat.le_trans (List.countP_le_length ..) (by simp)
  · intro i o hi; exact absurd hi (rep_false i)
  · refine ⟨fun _ => (0, undef), fun i o v d hi => absurd hi (rep_false i), (hs.drew _).sel fun S w hs => ?_⟩
    have := (hA fun _ => (0, undef)).at
    rw [this, List.append_nil] at hs
    rw [selF_congr (g := fun t => (pros.map fun p => p.isNone).getD t false) (tok _) (tok fun _ => (0, undef)) 0 rfl (fun t ht => ?_) (fun _ _ => rfl)]
    · exact hs
    · rw [hlen] at ht
      rw [Nat.zero_add, List.getD_eq_getElem?_getD, List.getElem?_map, List.getElem?_eq_getElem ht]
      unfold av
      rw [List.getD_eq_getElem?_getD, List.getElem?_eq_getElem ht]
      simp only [Option.getD_some, Option.map_some]
      have hf : ∀ q, (Array.replicate ops.toArray.size false).getD q false = false := fun q => by
        rw [Array.getD_eq_getD_getElem?, Array.getElem?_replicate]; split <;> rfl
      have h2 : (match cons.getD t none with | none => true | some q => !(Array.replicate ops.toArray.size false).getD q false) = true := by
        cases cons.getD t none with
        | none => rfl
        | some q => simp only [hf]; rfl
      rw [h2, Bool.and_true]
      cases pros[t] with
      | none => rfl
      | some p => simp only [hf]; rfl
end
end Go.BK
