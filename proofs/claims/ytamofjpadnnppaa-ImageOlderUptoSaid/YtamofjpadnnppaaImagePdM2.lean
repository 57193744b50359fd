/- Own lemmas: the texts LibP, LibQ, LibR, TeleA, PackB, PackC, PackD, PackF, PackH, PackJ, PackK, TeleD, LibS, TeleE, TeleG, TeleH, PackG, PackL. -/
import Derived.Test.YtamofjpadnnppaaImagePdM1
namespace Go.BK
open Go.RowKit
/-- What steps gave that nobody could tell ahead: a block, a value. -/
abbrev Ch := Nat → Nat × Value
def Ch.upd (c : Ch) (i : Nat) (x : Nat × Value) : Ch := fun k => bif Nat.beq k i then x else c k
theorem Ch.upd_self (c : Ch) (i : Nat) (x : Nat × Value) : c.upd i x i = x := by simp [Ch.upd]
def selF (f : Nat → Bool) : Nat → List HP → List HP
  | _, [] => []
  | k, x :: r => bif f k then x :: selF f (k + 1) r else selF f (k + 1) r
theorem selF_congr {f g : Nat → Bool} : ∀ (xs ys : List HP) (k : Nat), xs.length = ys.length → (∀ t, t < xs.length → f (k + t) = g (k + t)) → (∀ t, f (k + t) = true → xs[t]? = ys[t]?) → selF f k xs = selF g k ys := by
  intro xs
  induction xs with
  | nil => intro ys k hl _ _; cases ys with | nil => rfl | cons y s => simp at hl
  | cons x r ih =>
    intro ys k hl hfg he
    cases ys with
    | nil => simp at hl
    | cons y s =>
      have h1 := ih s (k + 1) (by simpa using hl) (fun t ht => by have := hfg (t + 1) (by simp; omega); rwa [show k + (t + 1) = k + 1 + t by omega] at this)
        (fun t ht => by have := he (t + 1) (by rw [show k + (t + 1) = k + 1 + t by omega]; exact ht); simpa using this)
      have h0 := hfg 0 (by simp)
      have h2 := he 0
      rw [Nat.add_zero] at h0 h2
      simp only [selF, ← h0]
      cases hf : f k with
      | true => have := h2 hf; simp at this; subst this; simp only [cond_true]; rw [h1]
      | false => simp only [cond_false]; exact h1
theorem selF_ext {f g : Nat → Bool} (xs : List HP) (k : Nat) (h : ∀ t, f t = g t) : selF f k xs = selF g k xs := selF_congr xs xs k rfl (fun t _ => h _) (fun _ _ => rfl)
theorem selF_split {f g h : Nat → Bool} (hd : ∀ t, f t = (g t || h t)) (hx : ∀ t, g t = true → h t = false) : ∀ (xs : List HP) (k : Nat) {S : BSet} {w : World}, (sepL (selF f k xs)).sat S w → (sepL (selF g k xs ++ selF h k xs)).sat S w := by
  intro xs
  induction xs with
  | nil => intro k S w hs; exact hs
  | cons x r ih =>
    intro k S w hs
    have hk := hd k
    have hkx := hx k
    simp only [selF] at hs ⊢
    cases hg : g k with
    | true =>
      rw [hg, Bool.true_or] at hk
      rw [hk] at hs
      rw [hkx hg]
      exact star_mono hs (fun _ h => h) fun _ h => ih (k + 1) h
    | false =>
      rw [hg, Bool.false_or] at hk
      rw [hk] at hs
      cases hh : h k with
      | true =>
        rw [hh] at hs
        simp only [cond_true, cond_false] at hs ⊢
        have h1 := star_mono hs (fun _ h => h) fun _ h => sepL_unappend (ih (k + 1) h)
        exact sepL_append (star_swap h1)
      | false =>
        rw [hh] at hs
        exact ih (k + 1) hs
theorem selF_join {f g h : Nat → Bool} (hd : ∀ t, f t = (g t || h t)) (hx : ∀ t, g t = true → h t = false) : ∀ (xs : List HP) (k : Nat) {S : BSet} {w : World}, (sepL (selF g k xs ++ selF h k xs)).sat S w → (sepL (selF f k xs)).sat S w := by
  intro xs
  induction xs with
  | nil => intro k S w hs; exact hs
  | cons x r ih =>
    intro k S w hs
    have hk := hd k
    have hkx := hx k
    simp only [selF] at hs ⊢
    cases hg : g k with
    | true =>
      rw [hg, Bool.true_or] at hk
      rw [hg, hkx hg] at hs
      rw [hk]
      exact star_mono hs (fun _ h => h) fun _ h => ih (k + 1) h
    | false =>
      rw [hg, Bool.false_or] at hk
      rw [hk]
      cases hh : h k with
      | true =>
        rw [hg, hh] at hs
        simp only [cond_true, cond_false] at hs ⊢
        have h1 := star_swap (sepL_unappend hs)
        exact star_mono h1 (fun _ h => h) fun _ h => ih (k + 1) (sepL_append h)
      | false =>
        rw [hg, hh] at hs
        exact ih (k + 1) hs
inductive SelT : List Bool → List HP → List HP → List HP → Prop
  | nil {R : List HP} : SelT [] [] R R
  | yes {bs : List Bool} {x : HP} {xs R out : List HP} : SelT bs xs R out → SelT (true :: bs) (x :: xs) R (x :: out)
  | no {bs : List Bool} {x : HP} {xs R out : List HP} : SelT bs xs R out → SelT (false :: bs) (x :: xs) R out
theorem SelT.eq {bs : List Bool} {xs R out : List HP} (h : SelT bs xs R out) : ∀ (f : Nat → Bool) (k : Nat), (∀ t, f (k + t) = bs.getD t false) → out = selF f k xs ++ R := by
  induction h with
  | nil => intro f k _; rfl
  | @yes bs x xs R out _ ih =>
    intro f k hf
    have h0 := hf 0
    rw [Nat.add_zero] at h0
    have := ih f (k + 1) fun t => by rw [show k + 1 + t = k + (t + 1) by omega, hf]; rfl
    rw [this]
    simp only [selF, h0]
    rfl
  | @no bs x xs R out _ ih =>
    intro f k hf
    have h0 := hf 0
    rw [Nat.add_zero] at h0
    have := ih f (k + 1) fun t => by rw [show k + 1 + t = k + (t + 1) by omega, hf]; rfl
    rw [this]
    simp only [selF, h0]
    rfl
theorem SelT.len {bs : List Bool} {xs R out : List HP} (h : SelT bs xs R out) : bs.length = xs.length := by
  induction h with
  | nil => rfl
  | yes _ ih => simp [ih]
  | no _ ih => simp [ih]
theorem SelT.at {bs : List Bool} {xs R out : List HP} (h : SelT bs xs R out) : out = selF (fun t => bs.getD t false) 0 xs ++ R := h.eq _ 0 fun t => by rw [Nat.zero_add]
structure NewW (P : Program) (w0 : World) (S0 : BSet) (n : Nat) (F : Fr) (A : List HP) (out : Nat × Value → List HP) (o : Oper) (val : Nat × Value → Value) : Prop where
  go : ∀ (Q : Exit → Act → World → Prop) (K : Act → World → Prop) (a : Act) (w : World), Agr n F a → St w0 S0 A w → (∀ x w', St w0 S0 (out x) w' → K (a.put o.dst (val x)) w') → o.wp P a w K Q
def preOk (ops : List Oper) (p : Option Nat) (i : Nat) : Bool := match p with
  | none => true
  | some q => ahead ops ops.length q i
def postOk (ops : List Oper) (q : Option Nat) (i : Nat) : Bool := match q with
  | none => true
  | some e => ahead ops ops.length i e
def depOk (ops : List Oper) (p : Option Nat) (i : Nat) : Bool := match p with
  | none => false
  | some q => q == i || ahead ops ops.length i q
def bmOk (ops : List Oper) (pros cons : List (Option Nat)) (i : Nat) (bm : List Bool) : Bool := (List.range bm.length).all fun t => !(bm.getD t false) || (preOk ops (pros.getD t none) i && postOk ops (cons.getD t none) i)
def noTok (pros cons : List (Option Nat)) (i : Nat) : Bool := (pros.all fun p => !(p == some i)) && cons.all fun p => !(p == some i)
def emOk (ops : List Oper) (pros cons : List (Option Nat)) (i : Nat) (cm pm bm : List Bool) : Bool :=
  bmOk ops pros cons i bm && pros.length == bm.length && pros.length == cm.length && pros.length == pm.length && pros.length == cons.length && (List.range pros.length).all fun t => (cm.getD t false == (cons.getD t none == some i)) && (pm.getD t false == (pros.getD t none == some i)) && !(bm.getD t false && cm.getD t false) && !(bm.getD t false && pm.getD t false)
def gOk (ops : List Oper) (pros cons : List (Option Nat)) : Bool := (pros.all fun p => p.all fun x => Nat.blt x ops.length) && (List.range cons.length).all fun t => match cons.getD t none with
  | none => true
  | some q => Nat.blt q ops.length && match pros.getD t none with
    | none => true
    | some p => ahead ops ops.length p q && !(p == q)
def nvAt (nv : List (Nat × (Nat × Value → Value))) (i : Nat) : Option (Nat × Value → Value) := match nv with
  | [] => none
  | (j, f) :: r => bif Nat.beq j i then some f else nvAt r i
section
variable (P : Program) (w0 : World) (S0 : BSet) (n : Nat) (ops : List Oper) (F0 : Fr) (tok : Ch → List HP) (pros cons : List (Option Nat)) (nv : List (Nat × (Nat × Value → Value))) (c : Ch)
inductive Par : Nat → Done → List Oper → Done → Prop
  | nil {i : Nat} {done : Done} : Par i done [] done
  | quiet {i : Nat} {done all : Done} {o : Oper} (v : Value) {rest : List Oper} (bm : List Bool) (hw : wantR done i o.guard = some true) (hm : (bmOk ops pros cons i bm && noTok pros cons i) = true) (hn : nvAt nv i = none)
      (h : ∀ R, ∃ A, SelT bm (tok c) R A ∧ EvW P w0 S0 n (preR F0 done i (aft o)) A o v) (k : Par (i + 1) ((o, v) :: done) rest all) : Par i done (o :: rest) all
  | skip {i : Nat} {done all : Done} {o : Oper} {rest : List Oper} (hw : wantR done i o.guard = some false) (hm : noTok pros cons i = true) (hn : nvAt nv i = none)
      (k : Par (i + 1) ((o, undef) :: done) rest all) : Par i done (o :: rest) all
  | eff {i : Nat} {done all : Done} {o : Oper} (v : Value) {rest : List Oper} (cm pm bm : List Bool) (hw : wantR done i o.guard = some true) (hn : nvAt nv i = none) (hm : emOk ops pros cons i cm pm bm = true)
      (h : ∀ R, ∃ A1 A A', SelT bm (tok c) R A1 ∧ SelT cm (tok c) A1 A ∧ SelT pm (tok c) A1 A' ∧ EffW P w0 S0 n (preR F0 done i (aft o)) A A' o v) (k : Par (i + 1) ((o, v) :: done) rest all) : Par i done (o :: rest) all
  | new {i : Nat} {done all : Done} {o : Oper} (val : Nat × Value → Value) {rest : List Oper} (cm pm bm : List Bool) (hw : wantR done i o.guard = some true) (hn : nvAt nv i = some val) (hm : emOk ops pros cons i cm pm bm = true)
      (h : ∀ R, ∃ A1 A out, SelT bm (tok c) R A1 ∧ SelT cm (tok c) A1 A ∧ (∀ x, SelT pm (tok (c.upd i x)) A1 (out x)) ∧ NewW P w0 S0 n (preR F0 done i (aft o)) A out o val) (k : Par (i + 1) ((o, val (c i)) :: done) rest all) : Par i done (o :: rest) all
end
/-- Alike, but where what step i gave may tell. -/
inductive IndA (ops : List Oper) (i : Nat) : Nat → Done → Done → Prop
  | nil {k : Nat} : IndA ops i k [] []
  | same {k : Nat} {x : Oper × Value} {r s : Done} : IndA ops i k r s → IndA ops i (k + 1) (x :: r) (x :: s)
  | skip {k : Nat} {o : Oper} {x y : Value} {r s : Done} : depOk ops (some k) i = true → IndA ops i k r s → IndA ops i (k + 1) ((o, x) :: r) ((o, y) :: s)
inductive IndT (ops : List Oper) (i : Nat) : List (Option Nat) → List HP → List HP → Prop
  | nil : IndT ops i [] [] []
  | same {p : Option Nat} {ps : List (Option Nat)} {x : HP} {r s : List HP} : IndT ops i ps r s → IndT ops i (p :: ps) (x :: r) (x :: s)
  | skip {p : Option Nat} {ps : List (Option Nat)} {x y : HP} {r s : List HP} : depOk ops p i = true → IndT ops i ps r s → IndT ops i (p :: ps) (x :: r) (y :: s)
theorem IndA.len {ops : List Oper} {i k : Nat} {r s : Done} (h : IndA ops i k r s) : r.length = k ∧ s.length = k ∨ True := .inr trivial
theorem IndA.at {ops : List Oper} {i k : Nat} {r s : Done} (h : IndA ops i k r s) : k = r.length → r.length = s.length ∧ ∀ j, depOk ops (some j) i = false → r.reverse[j]? = s.reverse[j]? := by
  induction h with
  | nil => intro _; exact ⟨rfl, fun _ _ => rfl⟩
  | @same k x r s _ ih =>
    intro hk
    obtain ⟨h1, h2⟩ := ih (by simpa using hk)
    refine ⟨by simp [h1], fun j hj => ?_⟩
    have := h2 j hj
    simp only [List.reverse_cons]
    by_cases hlt : j < r.length
    · rw [List.getElem?_append_left (by simpa using hlt), List.getElem?_append_left (by simpa [← h1] using hlt)]; exact this
    · rw [List.getElem?_append_right (by simpa using hlt), List.getElem?_append_right (by simpa [← h1] using hlt)]; simp [h1]
  | @skip k o x y r s hd _ ih =>
    intro hk
    simp only [List.length_cons] at hk
    obtain ⟨h1, h2⟩ := ih (by omega)
    refine ⟨by simp [h1], fun j hj => ?_⟩
    have := h2 j hj
    simp only [List.reverse_cons]
    by_cases hlt : j < r.length
    · rw [List.getElem?_append_left (by simpa using hlt), List.getElem?_append_left (by simpa [← h1] using hlt)]; exact this
    · by_cases he : j = r.length
      · have : j = k := by omega
        subst this; rw [hd] at hj; cases hj
      · rw [List.getElem?_eq_none (by simp; omega), List.getElem?_eq_none (by simp; omega)]
theorem IndT.at {ops : List Oper} {i : Nat} {ps : List (Option Nat)} {r s : List HP} (h : IndT ops i ps r s) : r.length = s.length ∧ r.length = ps.length ∧ ∀ t, depOk ops (ps.getD t none) i = false → r[t]? = s[t]? := by
  induction h with
  | nil => exact ⟨rfl, rfl, fun _ _ => rfl⟩
  | same _ ih =>
    obtain ⟨h1, h2, h3⟩ := ih
    refine ⟨by simp [h1], by simp [h2], fun t ht => ?_⟩
    cases t with
    | zero => rfl
    | succ t => simpa using h3 t (by simpa using ht)
  | skip hd _ ih =>
    obtain ⟨h1, h2, h3⟩ := ih
    refine ⟨by simp [h1], by simp [h2], fun t ht => ?_⟩
    cases t with
    | zero => simp [hd] at ht
    | succ t => simpa using h3 t (by simpa using ht)
section
variable {P : Program} {w0 : World} {S0 : BSet} {n : Nat} {ops : List Oper} {F0 : Fr} {tok : Ch → List HP} {pros cons : List (Option Nat)} {nv : List (Nat × (Nat × Value → Value))}
/-- One step, at its place. -/
def PStep (P : Program) (w0 : World) (S0 : BSet) (n : Nat) (ops : List Oper) (F0 : Fr) (tok : Ch → List HP) (pros cons : List (Option Nat)) (nv : List (Nat × (Nat × Value → Value))) (c : Ch) (all : Done) (i : Nat) (o : Oper) (v : Value) : Prop :=
  edgesOk i o = true ∧
  ((wants all o.guard = some true ∧ nvAt nv i = none ∧ ∃ bm, (bmOk ops pros cons i bm && noTok pros cons i) = true ∧ ∀ R, ∃ A, SelT bm (tok c) R A ∧ EvW P w0 S0 n (preF F0 all (aft o)) A o v) ∨
   (wants all o.guard = some false ∧ nvAt nv i = none ∧ noTok pros cons i = true ∧ v = undef) ∨
   (wants all o.guard = some true ∧ nvAt nv i = none ∧ ∃ cm pm bm, emOk ops pros cons i cm pm bm = true ∧ ∀ R, ∃ A1 A A', SelT bm (tok c) R A1 ∧ SelT cm (tok c) A1 A ∧ SelT pm (tok c) A1 A' ∧ EffW P w0 S0 n (preF F0 all (aft o)) A A' o v) ∨
   (wants all o.guard = some true ∧ ∃ val cm pm bm, nvAt nv i = some val ∧ v = val (c i) ∧ emOk ops pros cons i cm pm bm = true ∧
     ∀ R, ∃ A1 A out, SelT bm (tok c) R A1 ∧ SelT cm (tok c) A1 A ∧ (∀ x, SelT pm (tok (c.upd i x)) A1 (out x)) ∧ NewW P w0 S0 n (preF F0 all (aft o)) A out o val))
theorem Par.ok {c : Ch} {i0 : Nat} {done all : Done} {rest : List Oper} (h : Par P w0 S0 n ops F0 tok pros cons nv c i0 done rest all) : i0 = done.length → edgesAll i0 rest = true →
    ∃ more : Done, all.reverse = done.reverse ++ more ∧ more.map (·.1) = rest ∧ ∀ i o v, more[i]? = some (o, v) → PStep P w0 S0 n ops F0 tok pros cons nv c all.reverse (done.length + i) o v := by
  have key : ∀ {done all : Done} {o : Oper} {v : Value} {rest : List Oper}, (∃ more : Done, all.reverse = ((o, v) :: done).reverse ++ more ∧ more.map (·.1) = rest ∧ ∀ i o' v', more[i]? = some (o', v') → PStep P w0 S0 n ops F0 tok pros cons nv c all.reverse (((o, v) :: done).length + i) o' v') →
      (∀ more, all.reverse = done.reverse ++ more → PStep P w0 S0 n ops F0 tok pros cons nv c all.reverse done.length o v) → ∃ more : Done, all.reverse = done.reverse ++ more ∧ more.map (·.1) = o :: rest ∧ ∀ i o' v', more[i]? = some (o', v') → PStep P w0 S0 n ops F0 tok pros cons nv c all.reverse (done.length + i) o' v' := by
    intro done all o v rest ⟨more, h1, h2, h3⟩ h4
    have h1' : all.reverse = done.reverse ++ ((o, v) :: more) := by rw [h1]; simp
    refine ⟨(o, v) :: more, h1', by simp [h2], fun i o' v' hi => ?_⟩
    cases i with
    | zero => simp at hi; obtain ⟨rfl, rfl⟩ := hi; exact h4 _ h1'
    | succ i =>
      have := h3 i o' v' (by simpa using hi)
      rw [show done.length + (i + 1) = ((o, v) :: done).length + i from by simp; omega]
      exact this
  induction h with
  | nil => intro _ _; exact ⟨[], by simp, rfl, fun i o v h => by simp at h⟩
  | @quiet i0 done all o v rest bm hw hm hn h _ ih =>
    intro hi0 he
    simp only [edgesAll, Bool.and_eq_true] at he
    subst hi0
    have hg := he.1
    refine key (ih (by simp) he.2) fun more hmo => ⟨hg, .inl ⟨?_, hn, bm, hm, ?_⟩⟩
    · rw [hmo]; rw [wantR_eq] at hw; exact wants_mono hw
    · rw [hmo, preF_mono fun e he => by simpa using (edgesOk_lt hg e he).1]; rw [preR_eq] at h; exact h
  | @skip i0 done all o rest hw hm hn _ ih =>
    intro hi0 he
    simp only [edgesAll, Bool.and_eq_true] at he
    subst hi0
    refine key (ih (by simp) he.2) fun more hmo => ⟨he.1, .inr (.inl ⟨?_, hn, hm, rfl⟩)⟩
    rw [hmo]; rw [wantR_eq] at hw; exact wants_mono hw
  | @eff i0 done all o v rest cm pm bm hw hn hm h _ ih =>
    intro hi0 he
    simp only [edgesAll, Bool.and_eq_true] at he
    subst hi0
    have hg := he.1
    refine key (ih (by simp) he.2) fun more hmo => ⟨hg, .inr (.inr (.inl ⟨?_, hn, cm, pm, bm, hm, ?_⟩))⟩
    · rw [hmo]; rw [wantR_eq] at hw; exact wants_mono hw
    · rw [hmo, preF_mono fun e he => by simpa using (edgesOk_lt hg e he).1]; rw [preR_eq] at h; exact h
  | @new i0 done all o val rest cm pm bm hw hn hm h _ ih =>
    intro hi0 he
    simp only [edgesAll, Bool.and_eq_true] at he
    subst hi0
    have hg := he.1
    refine key (ih (by simp) he.2) fun more hmo => ⟨hg, .inr (.inr (.inr ⟨?_, val, cm, pm, bm, hn, rfl, hm, ?_⟩))⟩
    · rw [hmo]; rw [wantR_eq] at hw; exact wants_mono hw
    · rw [hmo, preF_mono fun e he => by simpa using (edgesOk_lt hg e he).1]; rw [preR_eq] at h; exact h
/-- Is a token there? -/
def av (pros cons : List (Option Nat)) (L : Array Bool) (t : Nat) : Bool :=
  (match pros.getD t none with
   | none => true
   | some p => L.getD p false) &&
  (match cons.getD t none with
   | none => true
   | some q => !L.getD q false)
theorem getD_set {L : Array Bool} {i j : Nat} (hi : i < L.size) : (L.setIfInBounds i true).getD j false = (L.getD j false || Nat.beq i j) := by
  simp only [Array.getD_eq_getD_getElem?, Array.getElem?_setIfInBounds]
  by_cases e : i = j
  · subst e; simp [hi]
  · rw [if_neg e, beqF e, Bool.or_false]
theorem St.sel {S0 : BSet} {w0 w : World} {A A' : List HP} (h : St w0 S0 A w) (k : ∀ S w, (sepL A).sat S w → (sepL A').sat S w) : St w0 S0 A' w := h.mono fun S w hs => k S w hs
theorem sepL_app_mono {A A' B : List HP} {S : BSet} {w : World} (h : (sepL (B ++ A)).sat S w) (k : ∀ S, (sepL A).sat S w → (sepL A').sat S w) : (sepL (B ++ A')).sat S w :=
  sepL_append (star_mono (sepL_unappend h) (fun _ h => h) k)
theorem bmOk_at {i : Nat} {bm : List Bool} (h : bmOk ops pros cons i bm = true) {t : Nat} (ht : bm.getD t false = true) : preOk ops (pros.getD t none) i = true ∧ postOk ops (cons.getD t none) i = true := by
  unfold bmOk at h
  rw [List.all_eq_true] at h
  have hlt : t < bm.length := by
    by_cases hl : t < bm.length
    · exact hl
    · rw [List.getD_eq_getElem?_getD, List.getElem?_eq_none (by omega)] at ht; cases ht
  have := h t (List.mem_range.2 hlt)
  rw [ht] at this
  simpa using this
theorem noTok_at {i : Nat} (h : noTok pros cons i = true) (t : Nat) : pros.getD t none ≠ some i ∧ cons.getD t none ≠ some i := by
  unfold noTok at h
  simp only [Bool.and_eq_true, List.all_eq_true, Bool.not_eq_true', beq_eq_false_iff_ne, ne_eq] at h
  constructor
  · intro he
    rw [List.getD_eq_getElem?_getD] at he
    cases hp : pros[t]? with
    | none => rw [hp] at he; cases he
    | some p => rw [hp] at he; simp at he; subst he; exact h.1 _ (List.mem_of_getElem? hp) rfl
  · intro he
    rw [List.getD_eq_getElem?_getD] at he
    cases hp : cons[t]? with
    | none => rw [hp] at he; cases he
    | some p => rw [hp] at he; simp at he; subst he; exact h.2 _ (List.mem_of_getElem? hp) rfl
theorem emOk_at {i : Nat} {cm pm bm : List Bool} (h : emOk ops pros cons i cm pm bm = true) : bmOk ops pros cons i bm = true ∧ ∀ t, cm.getD t false = (cons.getD t none == some i) ∧ pm.getD t false = (pros.getD t none == some i) ∧ (bm.getD t false = true → cm.getD t false = false ∧ pm.getD t false = false) := by
  unfold emOk at h
  simp only [Bool.and_eq_true, beq_iff_eq, List.all_eq_true] at h
  obtain ⟨⟨⟨⟨⟨h1, h0⟩, h2⟩, h3⟩, h4⟩, h5⟩ := h
  refine ⟨h1, fun t => ?_⟩
  by_cases hlt : t < pros.length
  · have := h5 t (List.mem_range.2 hlt)
    obtain ⟨⟨⟨ha, hb⟩, hc⟩, hd⟩ := this
    refine ⟨ha, hb, fun hbm => ?_⟩
    rw [hbm] at hc hd
    constructor
    · cases hx : cm.getD t false with
      | false => rfl
      | true => rw [hx] at hc; cases hc
    · cases hx : pm.getD t false with
      | false => rfl
      | true => rw [hx] at hd; cases hd
  · refine ⟨?_, ?_, fun h => by rw [List.getD_eq_getElem?_getD, List.getElem?_eq_none (by omega)] at h; cases h⟩
    · rw [List.getD_eq_getElem?_getD, List.getElem?_eq_none (by omega), List.getD_eq_getElem?_getD, List.getElem?_eq_none (by omega)]; rfl
    · rw [List.getD_eq_getElem?_getD, List.getElem?_eq_none (by omega), List.getD_eq_getElem?_getD, List.getElem?_eq_none (by omega)]; rfl
/-- Where a walk through the region stands. -/
structure PMid (w0 : World) (S0 : BSet) (n : Nat) (ops : List Oper) (F0 : Fr) (tok : Ch → List HP) (pros cons : List (Option Nat)) (all : Ch → Done) (L : Array Bool) (a : Act) (w : World) : Prop where
  size : L.size = ops.length
  down : ∀ (i : Nat) (o : Oper), L[i]? = some true → ops[i]? = some o → ∀ e ∈ aft o, L[e.on]? = some true
  base : Agr n F0 a
  st : ∃ c, (∀ (i : Nat) (o : Oper) (v : Value) (d : Nat), L[i]? = some true → (all c)[i]? = some (o, v) → o.dst = some d → a.tmps[d]? = some v) ∧ St w0 S0 (selF (av pros cons L) 0 (tok c)) w
theorem par_all {Q : Exit → Act → World → Prop} {all : Ch → Done} (hall : ∀ c, (all c).map (·.1) = ops) (hok : ∀ c i o v, (all c)[i]? = some (o, v) → PStep P w0 S0 n ops F0 tok pros cons nv c (all c) i o v) (hslots : slotsOk F0 ops [] = true) (hdst : ops.all (fun o => o.dst.all fun d => Nat.blt d n) = true)
    (hgok : gOk ops pros cons = true) (hlen : ∀ c, (tok c).length = pros.length) (hindA : ∀ i, nvAt nv i ≠ none → ∀ c x j, depOk ops (some j) i = false → (all (c.upd i x))[j]? = (all c)[j]?)
    (hindT : ∀ i, nvAt nv i ≠ none → ∀ c x t, depOk ops (pros.getD t none) i = false → (tok (c.upd i x))[t]? = (tok c)[t]?)
    (hfin : ∀ c a w, Agr n (allF F0 (all c)) a → St w0 S0 (selF (fun t => (cons.getD t none).isNone) 0 (tok c)) w → Q .normal a w) :
    ∀ (fuel : Nat) (L : Array Bool) (a : Act) (w : World), ((List.range ops.length).countP fun i => !L.getD i false) ≤ fuel → PMid w0 S0 n ops F0 tok pros cons all L a w → wpAny P .any ops.toArray Q fuel L a w := by
  have hall' : ∀ (c : Ch) (i : Nat) (o : Oper), ops[i]? = some o → ∃ v, (all c)[i]? = some (o, v) := by
    intro c i o h
    rw [← hall c, List.getElem?_map] at h
    cases ha : (all c)[i]? with
    | none => rw [ha] at h; cases h
    | some x => rw [ha] at h; simp at h; exact ⟨x.2, by rw [← h]⟩
  have c0 : Ch := fun _ => (0, undef)
  have hlt : ∀ (i : Nat) (o : Oper), ops[i]? = some o → ∀ e ∈ aft o, e.on < i ∧ Region.binds .any e = true := by
    intro i o h
    obtain ⟨v, hv⟩ := hall' c0 i o h
    exact edgesOk_lt (hok c0 i o v hv).1
  have hb : ∀ o ∈ ops, ∀ e ∈ aft o, Region.binds .any e = true := by
    intro o ho e he
    obtain ⟨i, hi⟩ := List.getElem?_of_mem ho
    exact (hlt i o hi e he).2
  have done : ∀ L a w, PMid w0 S0 n ops F0 tok pros cons all L a w → Region.ready .any ops.toArray L = [] → Q .normal a w := by
    intro L a w hm hr
    have hl := ready_nil hr hm.size (fun i o h e he => (hlt i o h e he).1)
    obtain ⟨c, htold, hst⟩ := hm.st
    have hin : ∀ (i : Nat) (o : Oper) (v : Value), (all c)[i]? = some (o, v) → i < ops.length := fun i o v ha => by have := (List.getElem?_eq_some_iff.1 ha).1; rw [← hall c]; simpa using this
    refine hfin c a w ⟨hm.base.defers, hm.base.size, fun t u ht => ?_⟩ ?_
    · rcases allF_get ht with h | ⟨i, o, ha, hd⟩
      · exact hm.base.get t u h
      · exact htold i o u t (hl i (hin i o u ha)) ha hd
    · refine hst.sel fun S w hs => ?_
      have hgo := hgok
      unfold gOk at hgo
      rw [Bool.and_eq_true, List.all_eq_true, List.all_eq_true] at hgo
      have hav : ∀ t, av pros cons L t = (cons.getD t none).isNone := by
        intro t
        unfold av
        have h1 : (match pros.getD t none with | none => true | some p => L.getD p false) = true := by
          cases hp : pros.getD t none with
          | none => rfl
          | some p =>
            rw [List.getD_eq_getElem?_getD] at hp
            cases hq : pros[t]? with
            | none => rw [hq] at hp; cases hp
            | some p' =>
              rw [hq] at hp; simp at hp; subst hp
              have := hgo.1 _ (List.mem_of_getElem? hq)
              exact listedB.2 (hl p (by simpa using this))
        rw [h1, Bool.true_and]
        cases hc : cons.getD t none with
        | none => rfl
        | some q =>
          have htc : t < cons.length := by
            by_cases h : t < cons.length
            · exact h
            · rw [List.getD_eq_getElem?_getD, List.getElem?_eq_none (by omega)] at hc; cases hc
          have := hgo.2 t (List.mem_range.2 htc)
          rw [hc] at this
          simp only [Bool.and_eq_true] at this
          have hq : q < ops.length := by simpa using this.1
          have := listedB.2 (hl q hq)
          simp [this]
      rw [selF_ext _ _ hav] at hs
      exact hs
  intro fuel
  induction fuel with
  | zero =>
    intro L a w hc hm
    have hr : Region.ready .any ops.toArray L = [] := by
      rw [List.eq_nil_iff_forall_not_mem]
      intro i hi
      obtain ⟨h1, h2, _⟩ := mem_ready hi hb
      have : (List.range ops.length).countP (fun i => !L.getD i false) = 0 := by omega
      rw [List.countP_eq_zero] at this
      have h3 := this i (List.mem_range.2 h1)
      simp only [Bool.not_eq_true', Bool.not_eq_false] at h3
      exact h2 (listedB.1 h3)
    exact ⟨hr, done L a w hm hr⟩
  | succ fuel ih =>
    intro L a w hc hm
    refine ⟨done L a w hm, fun i hi => ?_⟩
    obtain ⟨hilt, hnot, o, ho, hpre⟩ := mem_ready hi hb
    obtain ⟨c, htold, hst⟩ := hm.st
    obtain ⟨v, hv⟩ := hall' c i o ho
    obtain ⟨hedge, hstep⟩ := hok c i o v hv
    have hiL : i < L.size := by rw [hm.size]; exact hilt
    let L' := L.setIfInBounds i true
    have hL' : ∀ j, L'[j]? = if i = j then some true else L[j]? := by
      intro j
      show (L.setIfInBounds i true)[j]? = _
      rw [Array.getElem?_setIfInBounds]
      by_cases e : i = j
      · simp [e]; omega
      · simp [e]
    have hcnt : ((List.range ops.length).countP fun j => !L'.getD j false) ≤ fuel := by
      have h1 : ((List.range ops.length).countP fun j => !L'.getD j false) < ((List.range ops.length).countP fun j => !L.getD j false) := by
        have hsplit : List.range ops.length = List.range i ++ i :: List.range' (i + 1) (ops.length - (i + 1)) := by
          rw [List.range_eq_range', List.range_eq_range', ← List.range'_succ]
          rw [show ops.length - (i + 1) + 1 = ops.length - i from by omega]
          have := List.range'_append (s := 0) (m := i) (n := ops.length - i) (step := 1)
          simp at this
          rw [this]
          congr 1; omega
        rw [hsplit]
        simp only [List.countP_append, List.countP_cons]
        have e1 : ∀ l : List Nat, i ∉ l → l.countP (fun j => !L'.getD j false) = l.countP (fun j => !L.getD j false) := by
          intro l hl
          apply List.countP_congr
          intro j hj
          have hne : i ≠ j := fun e => hl (e ▸ hj)
          simp only [Array.getD_eq_getD_getElem?, hL' j, hne, ↓reduceIte]
        rw [e1 _ (by simp), e1 _ (by simp; omega)]
        have h2 : (!L'.getD i false) = false := by simp [Array.getD_eq_getD_getElem?, hL' i]
        have h3 : (!L.getD i false) = true := by
          cases hb : L.getD i false with
          | false => rfl
          | true => exact absurd (listedB.1 hb) hnot
        simp only [h2, h3, Bool.false_eq_true, ↓reduceIte]
        omega
      omega
    have hfr : Agr n (preF F0 (all c) (aft o)) a := ⟨hm.base.defers, hm.base.size, fun t u ht => by
      rcases preF_get ht with h | ⟨e, he, o', d, ha, hd, rfl⟩
      · exact hm.base.get t u h
      · exact htold e.on o' u d (hpre e he) ha hd⟩
    have hdown' : ∀ (j : Nat) (o' : Oper), L'[j]? = some true → ops[j]? = some o' → ∀ e ∈ aft o', L'[e.on]? = some true := by
      intro j o' hj ho' e he
      rw [hL'] at hj ⊢
      split
      · rfl
      · by_cases e1 : i = j
        · subst e1; rw [ho] at ho'; cases ho'; exact hpre e he
        · rw [if_neg e1] at hj; exact hm.down j o' hj ho' e he
    have hput : ∀ (c' : Ch) (u : Value), (all c')[i]? = some (o, u) → (∀ (j : Nat) (o' : Oper) (v' : Value) (d : Nat), L[j]? = some true → (all c')[j]? = some (o', v') → o'.dst = some d → a.tmps[d]? = some v') →
        (Agr n F0 (a.put o.dst u) ∧ ∀ (j : Nat) (o' : Oper) (v' : Value) (d : Nat), L'[j]? = some true → (all c')[j]? = some (o', v') → o'.dst = some d → (a.put o.dst u).tmps[d]? = some v') := by
      intro c' u hv' htold'
      obtain ⟨hs1, hs2⟩ := slotsOk_get hslots
      cases hd : o.dst with
      | none =>
        refine ⟨hm.base, fun j o' v' d hj ha hd' => ?_⟩
        rw [hL'] at hj
        by_cases e1 : i = j
        · subst e1; rw [hv'] at ha; cases ha; rw [hd] at hd'; cases hd'
        · rw [if_neg e1] at hj; exact htold' j o' v' d hj ha hd'
      | some d0 =>
        have hd0 : d0 < n := by
          rw [List.all_eq_true] at hdst
          have := hdst o (List.mem_of_getElem? ho)
          rw [hd] at this; simpa using this
        refine ⟨⟨hm.base.defers, by simp [Act.put, hm.base.size], fun t u' ht => ?_⟩, fun j o' v' d hj ha hd' => ?_⟩
        · have hne : d0 ≠ t := fun e => by subst e; rw [(hs1 i o d0 ho hd).2] at ht; cases ht
          simp only [Act.put, Array.getElem?_setIfInBounds, hne, ↓reduceIte]
          exact hm.base.get t u' ht
        · rw [hL'] at hj
          have hoj : ops[j]? = some o' := by rw [← hall c', List.getElem?_map, ha]; rfl
          by_cases e1 : i = j
          · subst e1
            rw [hv'] at ha; cases ha
            rw [hd] at hd'; cases hd'
            simp [Act.put, hm.base.size, hd0]
          · rw [if_neg e1] at hj
            have hne : d0 ≠ d := fun e => e1 (by subst e; exact hs2 i j o o' d0 ho hoj hd hd')
            simp only [Act.put, Array.getElem?_setIfInBounds, hne, ↓reduceIte]
            exact htold' j o' v' d hj ha hd'
    have hwant : ∀ b, wants (all c) o.guard = some b → Region.wanted o (yielded ops.toArray a.tmps) = b := by
      intro b hw
      cases hg : o.guard with
      | none => rw [hg] at hw; simp [wants] at hw; simp [Region.wanted, hg, hw]
      | some g =>
        obtain ⟨j, b0⟩ := g
        rw [hg] at hw
        have hgj : ∃ e ∈ aft o, e.on = j := by
          simp only [edgesOk, hg, Option.all_some, Bool.and_eq_true, List.any_eq_true, beq_iff_eq] at hedge
          exact hedge.1
        obtain ⟨e, he, rfl⟩ := hgj
        simp only [wants] at hw
        cases ha : (all c)[e.on]? with
        | none => rw [ha] at hw; cases hw
        | some x =>
          obtain ⟨o', v'⟩ := x
          rw [ha] at hw
          cases v' with
          | bool b' =>
            simp only [] at hw
            cases hd : o'.dst with
            | none => simp [hd] at hw
            | some d =>
              simp [hd] at hw
              have h1 := htold e.on o' (.bool b') d (hpre e he) ha hd
              have hoj : ops[e.on]? = some o' := by rw [← hall c, List.getElem?_map, ha]; rfl
              simp [Region.wanted, hg, yielded, hoj, hd, h1, hw]
          | _ => simp at hw
    have hLi : L.getD i false = false := by
      cases hb : L.getD i false with
      | false => rfl
      | true => exact absurd (listedB.1 hb) hnot
    have ain : ∀ j, ahead ops ops.length j i = true → L.getD j false = true := fun j h => listedB.2 (ahead_in (L := fun x => L[x]? = some true) (fun x o' hx ho' => hm.down x o' hx ho') ops.length j i h (fun o' ho' => by rw [ho] at ho'; cases ho'; exact hpre))
    have aout : ∀ j, ahead ops ops.length i j = true → L.getD j false = false := fun j h => by
      cases hj : L.getD j false with
      | false => rfl
      | true => exact absurd (ahead_in (L := fun x => L[x]? = some true) (fun x o' hx ho' => hm.down x o' hx ho') ops.length i j h (fun o' ho' => hm.down j o' (listedB.1 hj) ho')) hnot
    have hgo := hgok
    unfold gOk at hgo
    rw [Bool.and_eq_true, List.all_eq_true, List.all_eq_true] at hgo
    -- what somebody takes was made ahead of him
    have hpc : ∀ t p q, pros.getD t none = some p → cons.getD t none = some q → ahead ops ops.length p q = true ∧ p ≠ q := by
      intro t p q hp hq
      have htc : t < cons.length := by
        by_cases h : t < cons.length
        · exact h
        · rw [List.getD_eq_getElem?_getD, List.getElem?_eq_none (by omega)] at hq; cases hq
      have := hgo.2 t (List.mem_range.2 htc)
      rw [hq, hp] at this
      simp only [Bool.and_eq_true, Bool.not_eq_true', beq_eq_false_iff_ne] at this
      exact this.2
    have hset : ∀ j, L'.getD j false = (L.getD j false || Nat.beq i j) := fun j => getD_set hiL
    have havb : ∀ (bm : List Bool), bmOk ops pros cons i bm = true → ∀ t, bm.getD t false = true → av pros cons L t = true := by
      intro bm hbm t ht
      obtain ⟨h1, h2⟩ := bmOk_at hbm ht
      unfold av
      rw [Bool.and_eq_true]
      constructor
      · cases hp : pros.getD t none with
        | none => rfl
        | some p => rw [hp] at h1; exact ain p h1
      · cases hq : cons.getD t none with
        | none => rfl
        | some q => rw [hq] at h2; simp only []; rw [aout q h2]; rfl
    have hsame : ∀ t, pros.getD t none ≠ some i → cons.getD t none ≠ some i → av pros cons L' t = av pros cons L t := by
      intro t h1 h2
      unfold av
      congr 1
      · cases hp : pros.getD t none with
        | none => rfl
        | some p => simp only []; rw [hset, beqF (fun e => h1 (by rw [hp, e])), Bool.or_false]
      · cases hq : cons.getD t none with
        | none => rfl
        | some q => simp only []; rw [hset, beqF (fun e => h2 (by rw [hq, e])), Bool.or_false]
    -- what step i takes
    have htaken : ∀ t, cons.getD t none = some i → av pros cons L t = true ∧ av pros cons L' t = false := by
      intro t h
      constructor
      · unfold av
        rw [h]
        simp only [hLi, Bool.not_false, Bool.and_true]
        cases hp : pros.getD t none with
        | none => rfl
        | some p => exact ain p (hpc t p i hp h).1
      · unfold av
        rw [h]
        simp only [hset, Nat.beq_refl, Bool.or_true, Bool.not_true, Bool.and_false]
    have hmade : ∀ t, pros.getD t none = some i → av pros cons L t = false ∧ av pros cons L' t = true := by
      intro t h
      constructor
      · unfold av; rw [h]; simp only [hLi, Bool.false_and]
      · unfold av
        rw [h]
        simp only [hset, Nat.beq_refl, Bool.or_true, Bool.true_and]
        cases hq : cons.getD t none with
        | none => rfl
        | some q =>
          have h2 := hpc t i q h hq
          simp only []
          rw [aout q h2.1, beqF h2.2]; rfl
    have hopsA : ops.toArray[i]? = some o := by simpa using ho
    have parts : ∀ (cm pm bm : List Bool), emOk ops pros cons i cm pm bm = true →
        (∀ t, av pros cons L t = (cm.getD t false || (bm.getD t false || (av pros cons L t && !cm.getD t false && !bm.getD t false)))) ∧ (∀ t, av pros cons L' t = (pm.getD t false || (bm.getD t false || (av pros cons L t && !cm.getD t false && !bm.getD t false)))) ∧
        (∀ t, cm.getD t false = true → (bm.getD t false || (av pros cons L t && !cm.getD t false && !bm.getD t false)) = false) ∧ (∀ t, pm.getD t false = true → (bm.getD t false || (av pros cons L t && !cm.getD t false && !bm.getD t false)) = false) ∧
        ∀ t, bm.getD t false = true → (av pros cons L t && !cm.getD t false && !bm.getD t false) = false := by
      intro cm pm bm hem
      obtain ⟨hbm, hat⟩ := emOk_at hem
      have hb := havb bm hbm
      refine ⟨fun t => ?_, fun t => ?_, fun t => ?_, fun t => ?_, fun t => ?_⟩
      · obtain ⟨h1, h2, h3⟩ := hat t
        have h4 := hb t
        have h5 := htaken t
        cases hcm : cm.getD t false with
        | true => rw [hcm] at h1; have := h5 (by simpa using h1.symm); rw [this.1]; rfl
        | false => cases hbt : bm.getD t false with
          | true => rw [h4 hbt]; rfl
          | false => simp
      · obtain ⟨h1, h2, h3⟩ := hat t
        have h4 := hb t
        have h5 := htaken t
        have h6 := hmade t
        cases hpm : pm.getD t false with
        | true => rw [hpm] at h2; have := h6 (by simpa using h2.symm); rw [this.2]; rfl
        | false =>
          rw [hpm] at h2
          have hp : pros.getD t none ≠ some i := by simpa using h2.symm
          cases hcm : cm.getD t false with
          | true =>
            rw [hcm] at h1
            have h7 := h5 (by simpa using h1.symm)
            rw [h7.2]
            cases hbt : bm.getD t false with
            | true => have := (h3 hbt).1; rw [hcm] at this; cases this
            | false => simp
          | false =>
            rw [hcm] at h1
            have hq : cons.getD t none ≠ some i := by simpa using h1.symm
            rw [hsame t hp hq]
            cases hbt : bm.getD t false with
            | true => rw [h4 hbt]; rfl
            | false => simp
      · obtain ⟨h1, h2, h3⟩ := hat t
        intro hcm
        cases hbt : bm.getD t false with
        | true => have := (h3 hbt).1; rw [hcm] at this; cases this
        | false => rw [hcm]; simp
      · obtain ⟨h1, h2, h3⟩ := hat t
        intro hpm
        rw [hpm] at h2
        have h6 := hmade t (by simpa using h2.symm)
        cases hbt : bm.getD t false with
        | true => have := (h3 hbt).2; rw [hpm] at this; cases this
        | false => rw [h6.1]; rfl
      · intro hbt; rw [hbt]; simp
    unfold wpOp
    rw [hopsA]
    simp only []
    rcases hstep with ⟨hw, hn, bm, hm2, hR⟩ | ⟨hw, hn, hnt, hvu⟩ | ⟨hw, hn, cm, pm, bm, hem, hR⟩ | ⟨hw, val, cm, pm, bm, hnv, hvv, hem, hR⟩
    · rw [if_pos (hwant true hw)]
      rw [Bool.and_eq_true] at hm2
      obtain ⟨A, hA, hev⟩ := hR (selF (fun t => av pros cons L t && !bm.getD t false) 0 (tok c))
      have eA := hA.at
      have hb := havb bm hm2.1
      have hd : ∀ t, av pros cons L t = (bm.getD t false || (av pros cons L t && !bm.getD t false)) := fun t => by
        cases hbt : bm.getD t false with
        | true => rw [hb t hbt]; rfl
        | false => simp
      have hx : ∀ t, bm.getD t false = true → (av pros cons L t && !bm.getD t false) = false := fun t h => by rw [h]; simp
      refine .inl (hev.go _ _ a w hfr (hst.sel fun S w hs => by rw [eA]; exact selF_split hd hx _ 0 hs) fun w' hs' => ih L' _ w' hcnt ⟨by simp [L', hm.size], hdown', (hput c v hv htold).1, c, (hput c v hv htold).2, hs'.sel fun S w hs => ?_⟩)
      rw [eA] at hs
      have := selF_join hd hx _ 0 hs
      rwa [selF_ext _ _ (fun t => (hsame t (noTok_at hm2.2 t).1 (noTok_at hm2.2 t).2))]
    · rw [if_neg (by rw [hwant false hw]; simp)]
      subst hvu
      refine ih L' _ w hcnt ⟨by simp [L', hm.size], hdown', (hput c undef hv htold).1, c, (hput c undef hv htold).2, hst.sel fun S w hs => ?_⟩
      rwa [selF_ext _ _ (fun t => (hsame t (noTok_at hnt t).1 (noTok_at hnt t).2))]
    · rw [if_pos (hwant true hw)]
      obtain ⟨p1, p2, p3, p4, p5⟩ := parts cm pm bm hem
      obtain ⟨A1, A, A', h1, h2, h3, hE⟩ := hR (selF (fun t => av pros cons L t && !cm.getD t false && !bm.getD t false) 0 (tok c))
      have e1 := h1.at
      have e2 := h2.at
      have e3 := h3.at
      rw [e1] at e2 e3
      refine .inl (hE.go _ _ a w hfr (hst.sel fun S w hs => ?_) fun w' hs' => ih L' _ w' hcnt ⟨by simp [L', hm.size], hdown', (hput c v hv htold).1, c, (hput c v hv htold).2, hs'.sel fun S w hs => ?_⟩)
      · rw [e2]
        exact sepL_app_mono (selF_split p1 p3 _ 0 hs) fun _ h => selF_split (fun t => rfl) p5 _ 0 h
      · rw [e3] at hs
        exact selF_join p2 p4 _ 0 (sepL_app_mono hs fun _ h => selF_join (f := fun t => bm.getD t false || (av pros cons L t && !cm.getD t false && !bm.getD t false)) (fun t => rfl) p5 _ 0 h)
    · rw [if_pos (hwant true hw)]
      obtain ⟨p1, p2, p3, p4, p5⟩ := parts cm pm bm hem
      obtain ⟨A1, A, out, h1, h2, h3, hE⟩ := hR (selF (fun t => av pros cons L t && !cm.getD t false && !bm.getD t false) 0 (tok c))
      have e1 := h1.at
      have e2 := h2.at
      rw [e1] at e2
      have hne : nvAt nv i ≠ none := by rw [hnv]; simp
      -- what was told doesn't hang on what step i gives
      have hfar : ∀ j, L.getD j false = true → depOk ops (some j) i = false := by
        intro j hj
        unfold depOk
        simp only [Bool.or_eq_false_iff, beq_eq_false_iff_ne]
        refine ⟨fun e => by (subst e; rw [hLi] at hj; cases hj), ?_⟩
        cases ha : ahead ops ops.length i j with
        | false => rfl
        | true => rw [aout j ha] at hj; cases hj
      have hfarT : ∀ t, av pros cons L t = true → depOk ops (pros.getD t none) i = false := by
        intro t ht
        cases hp : pros.getD t none with
        | none => rfl
        | some p =>
          unfold av at ht
          rw [hp, Bool.and_eq_true] at ht
          exact hfar p ht.1
      refine .inl (hE.go _ _ a w hfr (hst.sel fun S w hs => ?_) fun x w' hs' => ?_)
      · rw [e2]
        exact sepL_app_mono (selF_split p1 p3 _ 0 hs) fun _ h => selF_split (fun t => rfl) p5 _ 0 h
      · obtain ⟨v', hv'⟩ := hall' (c.upd i x) i o ho
        have hval : v' = val x := by
          obtain ⟨_, hst'⟩ := hok (c.upd i x) i o v' hv'
          rcases hst' with ⟨_, hn, _⟩ | ⟨_, hn, _⟩ | ⟨_, hn, _⟩ | ⟨_, val', _, _, _, hnv', hvv', _⟩
          · rw [hnv] at hn; cases hn
          · rw [hnv] at hn; cases hn
          · rw [hnv] at hn; cases hn
          · rw [hnv] at hnv'; cases hnv'
            rw [hvv', Ch.upd_self]
        subst hval
        have htold' : ∀ (j : Nat) (o' : Oper) (v' : Value) (d : Nat), L[j]? = some true → (all (c.upd i x))[j]? = some (o', v') → o'.dst = some d → a.tmps[d]? = some v' := by
          intro j o' v' d hj ha hd
          rw [hindA i hne c x j (hfar j (listedB.2 hj))] at ha
          exact htold j o' v' d hj ha hd
        refine ih L' _ w' hcnt ⟨by simp [L', hm.size], hdown', (hput _ _ hv' htold').1, c.upd i x, (hput _ _ hv' htold').2, hs'.sel fun S w hs => ?_⟩
        have e3 := (h3 x).at
        rw [e1] at e3
        rw [e3] at hs
        have l1 : (tok c).length = (tok (c.upd i x)).length := by rw [hlen, hlen]
        rw [selF_congr (f := fun t => bm.getD t false) (g := fun t => bm.getD t false) (tok c) (tok (c.upd i x)) 0 l1 (fun _ _ => rfl) (fun t ht => (hindT i hne c x t (hfarT t (havb bm (emOk_at hem).1 t (by simpa using ht)))).symm),
          selF_congr (f := fun t => av pros cons L t && !cm.getD t false && !bm.getD t false) (g := fun t => av pros cons L t && !cm.getD t false && !bm.getD t false) (tok c) (tok (c.upd i x)) 0 l1 (fun _ _ => rfl) (fun t ht => (hindT i hne c x t (hfarT t (by simp at ht; exact ht.1.1))).symm)] at hs
        exact selF_join p2 p4 _ 0 (sepL_app_mono hs fun _ h => selF_join (f := fun t => bm.getD t false || (av pros cons L t && !cm.getD t false && !bm.getD t false)) (fun t => rfl) p5 _ 0 h)
/-- For each step that gives something new. -/
inductive AllN (p : Nat → Prop) : List (Nat × (Nat × Value → Value)) → Prop
  | nil : AllN p []
  | cons {i : Nat} {f : Nat × Value → Value} {r : List (Nat × (Nat × Value → Value))} : p i → AllN p r → AllN p ((i, f) :: r)
theorem AllN.at {p : Nat → Prop} {nv : List (Nat × (Nat × Value → Value))} (h : AllN p nv) : ∀ i, nvAt nv i ≠ none → p i := by
  induction h with
  | nil => intro i hi; exact absurd rfl hi
  | @cons j f r hj _ ih =>
    intro i hi
    simp only [nvAt] at hi
    by_cases e : j = i
    · subst e; exact hj
    · rw [beqF e] at hi; exact ih i hi
theorem WC.par {id : Nat} {Q : Exit → Act → World → Prop} {F : Fr} {A : List HP} {all : Ch → Done} (F0 : Fr) (tok : Ch → List HP) (pros cons : List (Option Nat)) (nv : List (Nat × (Nat × Value → Value))) (hmix : P.follows .mixedOrders = true) (hr : Restr (dsts ops) [] F F0) (hA : ∀ c, SelT (pros.map fun p => p.isNone) (tok c) [] A)
    (hslots : slotsOk F0 ops [] = true) (hdst : ops.all (fun o => o.dst.all fun d => Nat.blt d n) = true) (hg : (edgesAll 0 ops && gOk ops pros cons) = true)
    (hd : ∀ c, Par P w0 S0 n ops F0 tok pros cons nv c 0 [] ops (all c))
    (hindA : AllN (fun i => ∀ c x, IndA ops i ops.length (all (c.upd i x)) (all c)) nv) (hindT : AllN (fun i => ∀ c x, IndT ops i pros (tok (c.upd i x)) (tok c)) nv)
    (hlen : ∀ c, (tok c).length = pros.length)
    (h : ∀ c, ∃ Z, SelT (cons.map fun p => p.isNone) (tok c) [] Z ∧ WE w0 S0 n Q .normal (allF F0 (all c)) Z) : WC P w0 S0 n (.region id ops.toArray true) Q F A := by
  refine ⟨fun a w ha hs => wp_region_any hmix ?_⟩
  rw [Bool.and_eq_true] at hg
  have hsub : Sub F0 F := Sub.refl' hr F fun t v h => hr.get t v rfl h
  have hall : ∀ c, (all c).reverse.map (·.1) = ops := fun c => by
    obtain ⟨more, h1, h2, _⟩ := (hd c).ok rfl hg.1
    simp only [List.reverse_nil, List.nil_append] at h1
    rw [h1]; exact h2
  have hal : ∀ c, (all c).length = ops.length := fun c => by have := congrArg List.length (hall c); simpa using this
  have hg1 : ∀ t, (pros.map fun p => p.isNone).getD t false = true → (pros.getD t none).isNone = true := by
    intro t ht
    rw [List.getD_eq_getElem?_getD, List.getElem?_map] at ht
    rw [List.getD_eq_getElem?_getD]
    cases hp : pros[t]? with
    | none => rfl
    | some p => rw [hp] at ht; exact ht
  refine par_all (w0 := w0) (S0 := S0) (P := P) (all := fun c => (all c).reverse) (tok := tok) (pros := pros) (cons := cons) (nv := nv) hall (fun c i o v hi => ?_) hslots hdst hg.2 hlen (fun i hi c x j hj => ?_) (fun i hi c x t ht => ((hindT.at i hi) c x).at.2.2 t ht) (fun c a w ha hs => ?_) _ _ _ _ ?_ ⟨by simp, ?_, ha.sub hsub, ?_⟩
  · obtain ⟨more, h1, h2, h3⟩ := (hd c).ok rfl hg.1
    simp only [List.reverse_nil, List.nil_append] at h1
    have := h3 i o v (by rw [← h1]; exact hi)
    simpa using this
  · exact (((hindA.at i hi) c x).at (hal _).symm).2 j hj
  · obtain ⟨Z, hZ, hE⟩ := h c
    refine hE.go a w ⟨ha.defers, ha.size, fun t u ht => ha.get t u (allF_rev hslots (hall c) ht)⟩ (hs.sel fun S w hs => ?_)
    have := hZ.at
    rw [this, List.append_nil]
    have hcl : cons.length = (tok c).length := by have := hZ.len; simpa using this
    rw [selF_congr (g := fun t => (cons.map fun p => p.isNone).getD t false) (tok c) (tok c) 0 rfl (fun t ht => ?_) (fun _ _ => rfl)] at hs
    · exact hs
    · rw [Nat.zero_add, List.getD_eq_getElem?_getD, List.getD_eq_getElem?_getD, List.getElem?_map, List.getElem?_eq_getElem (by omega)]; rfl
  · exact Nat.le_trans (List.countP_le_length ..) (by simp)
  · intro i o hi; exact absurd hi (rep_false i)
  · refine ⟨fun _ => (0, undef), fun i o v d hi => absurd hi (rep_false i), (hs.drew _).sel fun S w hs => ?_⟩
    have := (hA fun _ => (0, undef)).at
    rw [this, List.append_nil] at hs
    rw [selF_congr (g := fun t => (pros.map fun p => p.isNone).getD t false) (tok _) (tok fun _ => (0, undef)) 0 rfl (fun t ht => ?_) (fun _ _ => rfl)]
    · exact hs
    · rw [hlen] at ht
      rw [Nat.zero_add, List.getD_eq_getElem?_getD, List.getElem?_map, List.getElem?_eq_getElem ht]
      unfold av
      rw [List.getD_eq_getElem?_getD, List.getElem?_eq_getElem ht]
      simp only [Option.getD_some, Option.map_some]
      have hf : ∀ q, (Array.replicate ops.toArray.size false).getD q false = false := fun q => by
        rw [Array.getD_eq_getD_getElem?, Array.getElem?_replicate]; split <;> rfl
      have h2 : (match cons.getD t none with | none => true | some q => !(Array.replicate ops.toArray.size false).getD q false) = true := by
        cases cons.getD t none with
        | none => rfl
        | some q => simp only [hf]; rfl
      rw [h2, Bool.and_true]
      cases pros[t] with
      | none => rfl
      | some p => simp only [hf]; rfl
end
end Go.BK
namespace Go.BK
open Go.RowKit
section
variable {P : Program} {w0 : World} {S0 : BSet} {n : Nat} {F : Fr} {A r : List HP} {dd : Option Tmp} {T : TypeId} {pos : String} {af : Array Edge} {x y : Operand} {v u : Value} {t ty e : TypeId} {k : IntKind} {a b : Int} {cs ys : List Value} {bl o sz len m : Nat} {g : Option (Nat × Bool)} {out : Nat × Value → List HP}
theorem NewW.box {el : TypeId} (hx : ev F x = some v) (hv : v.cells = cs.toArray) (ho : ∀ p, out p = .blk p.1 cs.toArray el :: A) : NewW P w0 S0 n F A out ⟨dd, .box el x, T, pos, af, g⟩ (fun p => ptr p.1 0) := by
  refine ⟨fun Q K a w ha hst hK => ?_⟩
  have hrun : (execOp a.eval ⟨dd, .box el x, T, pos, af, g⟩).run P w = .ok (.value (ptr w.heap.size 0)) (w.alloc (.cells cs.toArray el)) := by
    simp [execOp, ha.eval hx, Instr.box, newVar, newRow, hv]
  unfold Oper.wp
  rw [hrun]
  exact hK (w.heap.size, undef) _ (by rw [ho]; exact hst.newBlk _ _)
theorem NewW.alloc {el : TypeId} {z : Value} (hz : zvB P el = some z) (hv : z.cells = cs.toArray) (ho : ∀ p, out p = .blk p.1 cs.toArray el :: A) : NewW P w0 S0 n F A out ⟨dd, .alloc el, T, pos, af, g⟩ (fun p => ptr p.1 0) := by
  refine ⟨fun Q K a w ha hst hK => ?_⟩
  have hrun : (execOp a.eval ⟨dd, .alloc el, T, pos, af, g⟩).run P w = .ok (.value (ptr w.heap.size 0)) (w.alloc (.cells cs.toArray el)) := by
    simp [execOp, Instr.alloc, runZv hz, newVar, newRow, hv]
  unfold Oper.wp
  rw [hrun]
  exact hK (w.heap.size, undef) _ (by rw [ho]; exact hst.newBlk _ _)
theorem NewW.buildSlice {parts : List (Nat × Operand)} {len : Nat} {e : TypeId} {sz : Nat} {z : Value} {vs : List Value} (hu : P.underlying t = some (.slice e)) (hz : szB P e = some sz) (hzv : zvB P e = some z) (hzs : Nat.beq z.cells.size sz = true)
    (hi : parts.map (·.1) = List.range len) (hvs : evs F (parts.map (·.2)) = some vs) (hf : Flat sz vs cs) (hlen : Nat.beq vs.length len = true) (hsmall : Nat.ble (len * sz) (2 ^ 24) = true) (ho : ∀ p, out p = .blk p.1 cs.toArray e :: A) :
    NewW P w0 S0 n F A out ⟨dd, .buildSlice t len parts.toArray, T, pos, af, g⟩ (fun p => .slice (some ⟨p.1, 0, none⟩) len len) := by
  have hlen := Nat.eq_of_beq_eq_true hlen
  have hzs := Nat.eq_of_beq_eq_true hzs
  have hsmall := Nat.le_of_ble_eq_true hsmall
  refine ⟨fun Q K a w ha hst hK => ?_⟩
  have hvals : ∀ (l : List (Nat × Operand)) (vs : List Value), evs F (l.map (·.2)) = some vs → l.map (fun p => (p.1, a.eval p.2)) = (l.map (·.1)).zip vs := by
    intro l
    induction l with
    | nil => intro vs h; simp [evs] at h; simp [h]
    | cons p r ih =>
      intro vs h
      simp only [List.map_cons, evs] at h
      cases ht : ev F p.2 with
      | none => simp [ht] at h
      | some u =>
        cases hr : evs F (r.map (·.2)) with
        | none => simp [ht, hr] at h
        | some us => simp [ht, hr] at h; subst h; simp [ha.eval ht, ih us hr]
  have hzip : (List.range len).zip vs = (vs.zipIdx 0).map fun p => (p.2, p.1) := by
    have key : ∀ (vs : List Value) (j : Nat), (List.range' j vs.length).zip vs = (vs.zipIdx j).map fun p => (p.2, p.1) := by
      intro vs
      induction vs with
      | nil => intro j; rfl
      | cons v vs ih => intro j; simp [List.range'_succ, ih (j + 1)]
    rw [← hlen, List.range_eq_range']; exact key vs 0
  have hfill : Instr.fill (fun i => some (i * sz, sz)) ((Array.range (len * sz)).map ((if len * sz = 0 then #[] else z.cells)[· % (if len * sz = 0 then #[] else z.cells).size]!)) (parts.map fun p => (p.1, a.eval p.2)) = some cs.toArray := by
    rw [hvals parts vs hvs, hi, hzip]
    have er : ∀ f : Nat → Value, (Array.range (len * sz)).map f = ((List.range (len * sz)).map f).toArray := fun f => by apply Array.ext'; simp
    rw [er]
    have := fill_flat hf 0 ((List.range (len * sz)).map ((if len * sz = 0 then #[] else z.cells)[· % (if len * sz = 0 then #[] else z.cells).size]!)) (by simp [hlen])
    simpa using this
  have hrun : (execOp a.eval ⟨dd, .buildSlice t len parts.toArray, T, pos, af, g⟩).run P w = .ok (.value (.slice (some ⟨w.heap.size, 0, none⟩) len len)) (w.alloc (.cells cs.toArray e)) := by
    have hs : ¬ (2 ^ 24 < len * sz) := by omega
    by_cases h0 : len * sz = 0
    · simp only [h0, ↓reduceIte] at hfill
      simp [execOp, Instr.buildSlice, run_underlying hu, runSz hz, h0, newRow]
      rw [show (Array.map (fun _ => (default : Value)) (Array.range 0)) = Array.map (fun x => (#[] : Array Value)[x % (#[] : Array Value).size]!) (Array.range 0) from rfl, hfill]
      simp
    · simp only [h0, ↓reduceIte] at hfill
      simp [execOp, Instr.buildSlice, run_underlying hu, runSz hz, h0, runZv hzv, newRow, hs]
      rw [hfill]
      simp
  unfold Oper.wp
  rw [hrun]
  exact hK (w.heap.size, undef) _ (by rw [ho]; exact hst.newBlk _ _)
/-- make, of one-celled elements. -/
theorem NewW.make1 {bts : Nat} {z : Value} {k1 k2 : IntKind} (hx : ev F x = some (.int k1 a)) (hy : ev F y = some (.int k2 a)) (hu : P.underlying t = some (.slice e)) (hz : szB P e = some 1) (hb : byB P e = some bts) (hzv : zvB P e = some z) (hz1 : z.cells = #[z])
    (h0 : 0 ≤ a) (hm : a ≤ 140737488355328) (hroom : a.toNat * bts ≤ 140737488355328) (ho : ∀ p, out p = .own e 1 p.2 a.toNat (List.replicate a.toNat z) :: A) : NewW P w0 S0 n F A out ⟨dd, .makeSlice t x y, T, pos, af, g⟩ (fun p => p.2) := by
  refine ⟨fun Q K act w ha hst hK => ?_⟩
  obtain ⟨c, rfl⟩ := Int.eq_ofNat_of_zero_le h0
  simp only [Int.toNat_natCast] at hroom ho
  obtain ⟨inf, hinf, hby⟩ : ∃ inf, P.info? e = some inf ∧ inf.bytes = bts := by
    unfold byB at hb
    cases h : P.info? e with
    | none => simp [h] at hb
    | some i => simp [h] at hb; exact ⟨i, rfl, hb⟩
  subst hby
  have hwr : IntKind.i64.wrap (c : Int) = c := wrap_in _ (i64_in (by omega) (by omega))
  have hti : ∀ w' : World, (typeInfo e).run P w' = .ok inf w' := fun w' => run_typeInfo w' hinf
  have hroom' : ((inf.bytes : Int) * c) ≤ 140737488355328 := by
    have : ((c * inf.bytes : Nat) : Int) ≤ ((140737488355328 : Nat) : Int) := Int.ofNat_le.2 hroom
    rw [Int.mul_comm]; rw [Int.natCast_mul] at this; exact this
  have hnl : ¬ ((c : Int) < 0) := by omega
  have hcells : (Array.range c).map (fun i => (if c = 0 then (#[] : Array Value) else z.cells)[i % (if c = 0 then (#[] : Array Value) else z.cells).size]!) = (List.replicate c z).toArray := by
    by_cases hc0 : c = 0
    · subst hc0; exact Array.ext' (by simp)
    · simp only [hc0, ↓reduceIte, hz1]
      apply Array.ext'
      simp [List.map_const', Nat.mod_one]
  have hrun : (Instr.makeSlice t (.int k1 c) (.int k2 c)).run P w = .ok (.slice (some ⟨w.heap.size, 0, none⟩) c c) (w.alloc (.cells (List.replicate c z).toArray e)) := by
    by_cases hc0 : c = 0
    · subst hc0
      have hw0 : IntKind.i64.wrap 0 = 0 := hwr
      have hr0 : ∀ f : Nat → Value, Array.map f (Array.range 0) = #[] := fun f => Array.ext' (by simp)
      simp [Instr.makeSlice, run_underlying hu, asInt, asIntOf, hti, hw0, runSz hz, newRow, hr0]
    · simp only [hc0, ↓reduceIte] at hcells
      simp [Instr.makeSlice, run_underlying hu, asInt, asIntOf, hti, hwr, hnl, runSz hz, hc0, runZv hzv, newRow, hcells]
      intro hh; exfalso; omega
  have hex : (execOp act.eval ⟨dd, .makeSlice t x y, T, pos, af, g⟩).run P w = .ok (.value (.slice (some ⟨w.heap.size, 0, none⟩) c c)) (w.alloc (.cells (List.replicate c z).toArray e)) := by
    simp only [execOp, ha.eval hx, ha.eval hy, Sem.run_bind, hrun]; rfl
  unfold Oper.wp
  rw [hex]
  refine hK (0, .slice (some ⟨w.heap.size, 0, none⟩) c c) _ ?_
  rw [ho]
  refine (hst.newBlk _ _).mono fun S w2 h => star_mono h (fun S' h' => ?_) fun _ h => h
  have h2 : (HP.blk w.heap.size (List.replicate c z ++ []).toArray e).sat S' w2 := by rw [List.append_nil]; exact h'
  exact blk_own h2 (by simp) (Nat.le_refl _) (by simp)
/-- A call that gives new memory. -/
theorem NewW.call {f : FuncId} {args : List Operand} {ats : Array TypeId} {vals : List Value} {A1 A2 : List HP} {R : Value → List HP → Prop} {val : Nat × Value → Value} (post : Nat × Value → List HP) (hargs : evs F args = some vals)
    (hspec : ∀ w S, (sepL A1).sat S w → (∀ B, Sees w0 S0 B → Sees w S B) → (∀ B r, Take B A2 r → Sees w S B) → Tri P f vals.toArray w S R) (hcall : ∀ w, (callFunc f vals.toArray).run P w = .ok (.enter f vals.toArray) w) (ht : TakeL A1 A A2)
    (hR : ∀ v' A', R v' A' → ∃ p, v' = val p ∧ A' = post p) (hA : ∀ p w, St w0 S0 (post p ++ A2) w → St w0 S0 (out p) w) :
    NewW P w0 S0 n F A out ⟨dd, .call ⟨.value (.func f), args.toArray, ats⟩, T, pos, af, g⟩ val := by
  refine ⟨fun Q K a w ha hs hK => ?_⟩
  have hvals := evs_map ha args vals hargs
  obtain ⟨S, h1, h2, h3⟩ := hs
  obtain ⟨S1, S2, hu, hdis, h4, h5⟩ := ht.star h1
  have hsp := (hspec w S1 h4 (fun B hB => hB.down h2 h3 fun b hb => (hu b).2 (.inl hb)) (fun B r tB => by
    obtain ⟨S3, S4, hu', hd', h6, h7⟩ := tB.star h5
    exact ⟨S3, h6, fun b hb hb' => hdis b hb' ((hu' b).2 (.inl hb))⟩)).go
  have hrun : (execOp a.eval ⟨dd, .call ⟨.value (.func f), args.toArray, ats⟩, T, pos, af, g⟩).run P w = .ok (.enter f vals.toArray) w := by
    simp [execOp, resolve, Act.eval, Deferred.ofValue, invoke, hvals, hcall]
  unfold Oper.wp
  rw [hrun]
  refine hsp.mono ?_
  rintro e w' ⟨v', A', rfl, hRR, S', h6, h7, h8⟩
  obtain ⟨p, rfl, rfl⟩ := hR v' A' hRR
  refine hK p w' (hA p w' ?_)
  have hext : Ext S w w' := ⟨h7.os, h7.tape, h7.output, h7.size, fun b hb hnb => h7.keep b hb fun h => hnb ((hu b).2 (.inl h))⟩
  refine ⟨fun b => S' b ∨ S2 b, sepL_append ⟨S', S2, fun _ => Iff.rfl, fun b hb hb2 => ?_, h6, (sepL A2).loc h5 fun b hb => h7.keep b ((sepL A2).bnd h5 hb) fun h => hdis b h hb⟩, h2.step hext h3, fun b hb => ?_⟩
  · rcases h8 b hb with h | h
    · exact hdis b h hb2
    · have := (sepL A2).bnd h5 hb2; omega
  · rcases hb with hb | hb
    · rcases h8 b hb with h | h
      · exact h3 b ((hu b).2 (.inl h))
      · exact .inr (Nat.le_trans h2.size h)
    · exact h3 b ((hu b).2 (.inr hb))
theorem NewW.callA {f : FuncId} {args : List Operand} {ats : Array TypeId} {vals : List Value} (A1 : List HP) {A2 : List HP} {R : Value → List HP → Prop} {val : Nat × Value → Value} (post : Nat × Value → List HP) (hargs : evs F args = some vals) (hcall : ∀ w, (callFunc f vals.toArray).run P w = .ok (.enter f vals.toArray) w) (ht : TakeL A1 A A2)
    (hspec : ∀ w S, (sepL A1).sat S w → (∀ B, Sees w0 S0 B → Sees w S B) → (∀ B r, Take B A2 r → Sees w S B) → Tri P f vals.toArray w S R)
    (hR : ∀ v' A', R v' A' → ∃ p, v' = val p ∧ A' = post p) (hA : ∀ p w, St w0 S0 (post p ++ A2) w → St w0 S0 (out p) w) :
    NewW P w0 S0 n F A out ⟨dd, .call ⟨.value (.func f), args.toArray, ats⟩, T, pos, af, g⟩ val := .call post hargs hspec hcall ht hR hA
/-- The same tokens in another order, the rest unknown; some may be let go. -/
inductive TakeT : List HP → List HP → Prop
  | tail {R : List HP} : TakeT R R
  | cons {x : HP} {xs A A' : List HP} : Take x A A' → TakeT xs A' → TakeT (x :: xs) A
  | drop {y : HP} {xs A : List HP} : TakeT xs A → TakeT xs (y :: A)
theorem TakeT.st {w0 w : World} {S0 : BSet} {xs A : List HP} (t : TakeT xs A) (h : St w0 S0 A w) : St w0 S0 xs w := by
  have key : ∀ {xs A : List HP}, TakeT xs A → ∃ D, ∀ S w, (sepL A).sat S w → (sepL (xs ++ D)).sat S w := by
    intro xs A t
    induction t with
    | tail => exact ⟨[], fun S w h => by rw [List.append_nil]; exact h⟩
    | cons t _ ih =>
      obtain ⟨D, hD⟩ := ih
      exact ⟨D, fun S w h => star_mono (t.star h) (fun _ h => h) fun _ h => hD _ _ h⟩
    | @drop y xs A _ ih =>
      obtain ⟨D, hD⟩ := ih
      exact ⟨y :: D, fun S w h => sepL_append (star_swap (star_mono h (fun _ h => h) fun _ h => sepL_unappend (hD _ _ h)))⟩
  obtain ⟨D, hD⟩ := key t
  refine h.turn fun S hs => ?_
  obtain ⟨S1, S2, hu, _, h1, _⟩ := sepL_unappend (hD S w hs)
  exact ⟨S1, h1, .refl _ _, fun b hb => .inl ((hu b).2 (.inl hb))⟩
end
end Go.BK
namespace Go.BK
open Go.RowKit
section
variable {P : Program} {w0 : World} {S0 : BSet} {n : Nat} {F : Fr} {A A' r : List HP} {ops : Array Oper} {Q : Exit → Act → World → Prop} {rest : List Oper} {d : Nat} {T : TypeId} {pos : String} {af : Array Edge} {x y : Operand} {v u : Value} {t ty e U : TypeId} {k : IntKind} {a b : Int} {cs ys : List Value} {bl o sz len m : Nat} {dd : Option Tmp} {g : Option (Nat × Bool)}
theorem runLoadVar {w : World} {l : List Value} (hag : aggB P T = true) (hm : szB P T = some l.length) (hb : blkAt bl l.toArray U w) : (loadVar T ⟨bl, 0, none⟩).run P w = .ok (.agg l.toArray) w := by
  have h := runLoadAgg (P := P) (w := w) (t := T) (o := 0) hag hm hb (by simp)
  unfold Instr.loadAt at h
  simp only [Instr.sureAddr, Sem.run_bind, Sem.run_pure, Result.andThen] at h
  rw [h]
  simp
/-- One result, that lies in a cell. -/
theorem WE.retC {fn : Func} {t : Nat} {R : Value → List HP → Prop} {l : List Value} (hr : fn.results = #[.cell t T]) (hv : F.get t = some (ptr bl 0)) (ht : Take (.blk bl l.toArray U) A r) (hag : aggB P T = true) (hm : szB P T = some l.length) (k : ∀ w, St w0 S0 A w → St w0 S0 A' w) (h : R (.agg l.toArray) A') :
    WE w0 S0 n (bodyPost P fn (RetSt w0 S0 R)) .ret F A :=
  ⟨fun act w ha hs => bodyPost_ret (v := .agg l.toArray) (by
    have hl := runLoadVar (P := P) (w := w) hag hm (hs.blk ht)
    have hg : act.tmps.getD t undef = ptr bl 0 := by rw [Array.getD_eq_getD_getElem?, ha.get t _ hv]; rfl
    rw [Array.getD_eq_getD_getElem?] at hg
    simp [results, hr, hg, asAddr, hl]) ha.defers ⟨_, A', rfl, h, k w hs⟩⟩
/-- Two results, the first in a cell. -/
theorem WE.retC2 {fn : Func} {t t' : Nat} {R : Value → List HP → Prop} {l : List Value} (hr : fn.results = #[.cell t T, .tmp t']) (hv : F.get t = some (ptr bl 0)) (hv' : F.get t' = some v) (ht : Take (.blk bl l.toArray U) A r) (hag : aggB P T = true) (hm : szB P T = some l.length) (k : ∀ w, St w0 S0 A w → St w0 S0 A' w) (h : R (.tuple #[.agg l.toArray, v]) A') :
    WE w0 S0 n (bodyPost P fn (RetSt w0 S0 R)) .ret F A :=
  ⟨fun act w ha hs => bodyPost_ret (v := .tuple #[.agg l.toArray, v]) (by
    have hl := runLoadVar (P := P) (w := w) hag hm (hs.blk ht)
    have hg : act.tmps.getD t undef = ptr bl 0 := by rw [Array.getD_eq_getD_getElem?, ha.get t _ hv]; rfl
    have hg' : act.tmps.getD t' undef = v := by rw [Array.getD_eq_getD_getElem?, ha.get t' _ hv']; rfl
    rw [Array.getD_eq_getD_getElem?] at hg hg'
    simp [results, hr, hg, hg', asAddr, hl]) ha.defers ⟨_, A', rfl, h, k w hs⟩⟩
/-- A function value. -/
theorem EvW.makeFunc {f : FuncId} {caps : List Operand} {vs : List Value} (hv : evs F caps = some vs) : EvW P w0 S0 n F A ⟨dd, .makeFunc (.func f) #[] caps.toArray, T, pos, af, g⟩ (.func (.func f) #[] vs.toArray) :=
  .pure fun a' w ha _ => by
    have := evs_map ha caps vs hv
    simp [execOp, Instr.makeFunc, this]
/-- A call of a function value. -/
theorem WL.callV {f : FuncId} {z : Operand} {caps : List Value} {args : List Operand} {ats : Array TypeId} {vals : List Value} (A1 : List HP) {R : Value → List HP → Prop}
    (hn : Nat.blt d n = true) (hz : ev F z = some (.func (.func f) #[] caps.toArray)) (hargs : evs F args = some vals) (hcall : ∀ w, (callFunc f (vals ++ caps).toArray).run P w = .ok (.enter f (vals ++ caps).toArray) w) (ht : TakeL A1 A A')
    (hspec : ∀ w S, (sepL A1).sat S w → (∀ B, Sees w0 S0 B → Sees w S B) → (∀ B r, Take B A' r → Sees w S B) → Tri P f (vals ++ caps).toArray w S R)
    (kk : ∀ v A2, R v A2 → WL P w0 S0 n ops Q rest ((d, v) :: F) (A2 ++ A')) :
    WL P w0 S0 n ops Q (⟨some d, .call ⟨.value z, args.toArray, ats⟩, T, pos, af, none⟩ :: rest) F A := by
  refine .step (fun act w ha hs K hK => ?_) rfl
  have hvals := evs_map ha args vals hargs
  obtain ⟨S, h1, h2, h3⟩ := hs
  obtain ⟨S1, S2, hu, hdis, h4, h5⟩ := ht.star h1
  have hsp := (hspec w S1 h4 (fun B hB => hB.down h2 h3 fun b hb => (hu b).2 (.inl hb)) (fun B r tB => by
    obtain ⟨S3, S4, hu', hd', h6, h7⟩ := tB.star h5
    exact ⟨S3, h6, fun b hb hb' => hdis b hb' ((hu' b).2 (.inl hb))⟩)).go
  have hrun : (execOp act.eval ⟨some d, .call ⟨.value z, args.toArray, ats⟩, T, pos, af, none⟩).run P w = .ok (.enter f (vals ++ caps).toArray) w := by
    have hc := hcall w
    have e2 : vals.toArray ++ caps.toArray = (vals ++ caps).toArray := by simp
    have e1 : (args.toArray.map act.eval) = vals.toArray := by simp [hvals]
    simp only [execOp, resolve, e1, ha.eval hz, Deferred.ofValue, Sem.run_bind, Sem.run_pure, Result.andThen, invoke, Array.empty_append, e2]
    exact hc
  unfold Oper.wp
  rw [hrun]
  refine hsp.mono ?_
  rintro e w' ⟨v, A2, rfl, hR, S', h6, h7, h8⟩
  refine hK _ _ ((kk v A2 hR).go _ _ (ha.put (by simpa using hn) v) ?_)
  have hext : Ext S w w' := ⟨h7.os, h7.tape, h7.output, h7.size, fun b hb hnb => h7.keep b hb fun h => hnb ((hu b).2 (.inl h))⟩
  refine ⟨fun b => S' b ∨ S2 b, sepL_append ⟨S', S2, fun _ => Iff.rfl, fun b hb hb2 => ?_, h6, (sepL A').loc h5 fun b hb => h7.keep b ((sepL A').bnd h5 hb) fun h => hdis b h hb⟩, h2.step hext h3, fun b hb => ?_⟩
  · rcases h8 b hb with h | h
    · exact hdis b h hb2
    · have := (sepL A').bnd h5 hb2; omega
  · rcases hb with hb | hb
    · rcases h8 b hb with h | h
      · exact h3 b ((hu b).2 (.inl h))
      · exact .inr (Nat.le_trans h2.size h)
    · exact h3 b ((hu b).2 (.inr hb))
/-- A cell of a block that is only read. -/
theorem EvW.ldSeen {q : Value} (hx : ev F x = some (ptr bl o)) (hs : scalB P t = true) (hB : Sees w0 S0 (.blk bl cs.toArray U)) (hc : getL cs o = some q) : EvW P w0 S0 n F A ⟨dd, .load t x, T, pos, af, g⟩ q :=
  .loadSees hx hs hB fun R w h => h.2.cell (by rw [List.getElem?_toArray, ← getL_eq]; exact hc)
/-- An int of a list of things: a cell of an element. -/
theorem EvW.ldFld {α : Type} {xs : List α} {f : α → List Value} {i off : Nat} {q : Value} (hx : ev F x = some (elemP sz v i off)) (hs : scalB P t = true) (hB : Sees w0 S0 (.row sz v len (xs.flatMap f))) (hI : Inhabited α) (hf : ∀ a, (f a).length = sz) (hi : i < xs.length) (hq : getL (f (xs.getD i default)) off = some q) : EvW P w0 S0 n F A ⟨dd, .load t x, T, pos, af, g⟩ q :=
  .ldRow hx hs hB (by
    have h := flat_get (z := default) hf hi
    rw [getL_eq] at hq
    have hlt : off < sz := by rw [← hf (xs.getD i default)]; exact (List.getElem?_eq_some_iff.1 hq).1
    rw [← h, List.getElem?_take_of_lt hlt, List.getElem?_drop] at hq
    exact hq)
end
end Go.BK
namespace Go.Proofs.Ytamofjpadnnppaa
open Go.RowKit Go.BK
structure Sec where
  k : Int
  oc : Int
  l : Int
instance : Inhabited Sec := ⟨⟨0, 0, 0⟩⟩
def secC (s : Sec) : List Value := [i64 s.k, i64 s.oc, i64 s.l]
structure Sig where
  s : Int
  e : Int
instance : Inhabited Sig := ⟨⟨0, 0⟩⟩
def sigC (s : Sig) : List Value := [i64 s.s, i64 s.e]
/-- A station, as it is handed in. -/
structure Cfg where
  vS : Value
  vJ : Value
  vG : Value
  vC : Value
  vR : Value
  secs : List Sec
  sigs : List Sig
  crs : List Int
  age : Int
  brake : Int
  hold : Int
  budget : Int
def cfgC (c : Cfg) : List Value := [c.vS, c.vJ, c.vG, c.vC, c.vR, i64 c.age, i64 c.brake, i64 c.hold, i64 c.budget]
structure Cfg.Seen (c : Cfg) (w : World) (S : BSet) : Prop where
  secs : Sees w S (.row 3 c.vS c.secs.length (c.secs.flatMap secC))
  sigs : Sees w S (.row 2 c.vG c.sigs.length (c.sigs.flatMap sigC))
  crs : Sees w S (.row 1 c.vC c.crs.length (c.crs.map i64))
  nS : c.secs.length ≤ 8796093022208
  nG : c.sigs.length ≤ 8796093022208
  nC : c.crs.length ≤ 17592186044416
theorem Cfg.Seen.down {c : Cfg} {w w' : World} {S S' : BSet} (h : c.Seen w S) (k : ∀ B, Sees w S B → Sees w' S' B) : c.Seen w' S' := ⟨k _ h.secs, k _ h.sigs, k _ h.crs, h.nS, h.nG, h.nC⟩
def Cfg.mine (c : Cfg) (oc s : Int) : Bool := decide (0 ≤ s) && decide (s < c.secs.length) && decide ((c.secs.getD s.toNat default).oc = oc)
theorem mine_spec (c : Cfg) (q1 q2 : Nat) (s oc : Int) (w : World) (S : BSet) (hS : (sepL []).sat S w) (h : c.Seen w S) (h1 : Sees w S (.blk q1 (cfgC c).toArray 30)) (h2 : Sees w S (.blk q2 [i64 oc].toArray 3)) :
    Tri Try.prog 56 #[i64 s, ptr q1 0, ptr q2 0] w S fun u A => u = .bool (c.mine oc s) ∧ A = [] := by
  have hsec := h.secs
  have hm : c.mine oc s = (decide (0 ≤ s) && decide (s < c.secs.length) && decide ((c.secs.getD s.toNat default).oc = oc)) := rfl
  rw [hm]
  refine Tri.enter (l := [i64 s, ptr q1 0, ptr q2 0]) Try.func56 rfl Try.ntmps56 rfl [(0, i64 s), (1, ptr q1 0), (2, ptr q2 0)] (subA rfl) hS ?_
  by_cases h0 : 0 ≤ s
  · by_cases hl : s < c.secs.length
    · rw [decide_eq_true h0, decide_eq_true hl, Bool.true_and, Bool.true_and]
      repeat first
        | (apply WL.q; exact rfl; exact rfl; exact rfl; (first | (apply EvW.move; exact rfl) | (apply EvW.assign; exact rfl) | (apply EvW.fieldAddr0; exact rfl; exact FldC.eq) | (apply EvW.fieldAddr; exact rfl; exact FldC.eq) | (apply EvW.load; exact rfl; exact ScalC.eq; (focus ((repeat constructor); done)); exact rfl) | (apply EvW.ldSeen; exact rfl; exact ScalC.eq; assumption; (first | exact rfl | assumption)) | (apply EvW.ldFld; exact rfl; exact ScalC.eq; assumption; exact fun _ => rfl; omega; exact rfl; exact inferInstance) | (apply EvW.lenL; exact rfl; exact UndC.eq) | (apply EvW.cmpT; exact rfl; exact rfl; exact rfl; omega) | (apply EvW.cmpF; exact rfl; exact rfl; exact rfl; omega) | (apply EvW.cmp; exact rfl; exact rfl; exact rfl) | (apply EvW.pickT; exact rfl; exact rfl) | (apply EvW.pickF; exact rfl; exact rfl) | (apply EvW.lenRow; exact rfl; exact UndC.eq; assumption) | (apply EvW.lenOwn; exact rfl; exact UndC.eq; (focus ((repeat constructor); done))) | (apply EvW.idxRow; exact rfl; exact rfl; exact UndC.eq; exact SzC.eq; assumption; omega; omega) | (apply EvW.idxOwn; exact rfl; exact rfl; exact UndC.eq; exact SzC.eq; (focus ((repeat constructor); done)); omega; omega) | (apply EvW.ldInt; exact rfl; exact ScalC.eq; assumption; omega) | (apply EvW.ldIntOwn; exact rfl; exact ScalC.eq; (focus ((repeat constructor); done)); omega) | (apply EvW.fldRow; exact rfl; exact FldC.eq; assumption; omega) | (apply EvW.fldOwn; exact rfl; exact FldC.eq; (focus ((repeat constructor); done)); omega)))
        | refine WC.seq ?_ | refine WC.region ?_ | refine WL.nil ?_ | refine WE.next ?_ | refine WC.skip ?_ | refine WC.exit ?_ | refine WE.pass ?_ | refine WE.hit ?_ | refine WE.miss rfl ?_ | refine WE.out ?_ | refine WC.ret ?_ | refine WE.passRet ?_ | refine WE.outRet ?_ | refine WL.wanted rfl rfl rfl ?_ | refine WL.unwanted rfl rfl rfl rfl ?_ | refine WL.unwantedU rfl rfl rfl rfl ?_ | refine WL.unwanted0 rfl rfl rfl ?_
      repeat refine WC.seq ?_
      apply WC.drawQ Try.mixed
      · (focus ((repeat (first | exact Restr.nil | (apply Restr.keep; exact rfl; exact rfl) | (apply Restr.drop; exact rfl))); done))
      · exact rfl
      · decide +kernel
      · decide +kernel
      · repeat first
          | exact Draws.nil
          | (apply Draws.skip; exact rfl; exact rfl)
          | (apply Draws.q0; exact rfl
             (first | (apply EvW.move; exact rfl) | (apply EvW.assign; exact rfl) | (apply EvW.fieldAddr0; exact rfl; exact FldC.eq) | (apply EvW.fieldAddr; exact rfl; exact FldC.eq) | (apply EvW.load; exact rfl; exact ScalC.eq; (focus ((repeat constructor); done)); exact rfl) | (apply EvW.ldSeen; exact rfl; exact ScalC.eq; assumption; (first | exact rfl | assumption)) | (apply EvW.ldFld; exact rfl; exact ScalC.eq; assumption; exact fun _ => rfl; omega; exact rfl; exact inferInstance) | (apply EvW.lenL; exact rfl; exact UndC.eq) | (apply EvW.cmpT; exact rfl; exact rfl; exact rfl; omega) | (apply EvW.cmpF; exact rfl; exact rfl; exact rfl; omega) | (apply EvW.cmp; exact rfl; exact rfl; exact rfl) | (apply EvW.pickT; exact rfl; exact rfl) | (apply EvW.pickF; exact rfl; exact rfl) | (apply EvW.lenRow; exact rfl; exact UndC.eq; assumption) | (apply EvW.lenOwn; exact rfl; exact UndC.eq; (focus ((repeat constructor); done))) | (apply EvW.idxRow; exact rfl; exact rfl; exact UndC.eq; exact SzC.eq; assumption; omega; omega) | (apply EvW.idxOwn; exact rfl; exact rfl; exact UndC.eq; exact SzC.eq; (focus ((repeat constructor); done)); omega; omega) | (apply EvW.ldInt; exact rfl; exact ScalC.eq; assumption; omega) | (apply EvW.ldIntOwn; exact rfl; exact ScalC.eq; (focus ((repeat constructor); done)); omega) | (apply EvW.fldRow; exact rfl; exact FldC.eq; assumption; omega) | (apply EvW.fldOwn; exact rfl; exact FldC.eq; (focus ((repeat constructor); done)); omega)))
      apply WE.writ
      · (focus ((repeat (first | exact Writ.nil | apply Writ.some | apply Writ.none)); done))
      repeat first
        | (apply WL.q; exact rfl; exact rfl; exact rfl; (first | (apply EvW.move; exact rfl) | (apply EvW.assign; exact rfl) | (apply EvW.fieldAddr0; exact rfl; exact FldC.eq) | (apply EvW.fieldAddr; exact rfl; exact FldC.eq) | (apply EvW.load; exact rfl; exact ScalC.eq; (focus ((repeat constructor); done)); exact rfl) | (apply EvW.ldSeen; exact rfl; exact ScalC.eq; assumption; (first | exact rfl | assumption)) | (apply EvW.ldFld; exact rfl; exact ScalC.eq; assumption; exact fun _ => rfl; omega; exact rfl; exact inferInstance) | (apply EvW.lenL; exact rfl; exact UndC.eq) | (apply EvW.cmpT; exact rfl; exact rfl; exact rfl; omega) | (apply EvW.cmpF; exact rfl; exact rfl; exact rfl; omega) | (apply EvW.cmp; exact rfl; exact rfl; exact rfl) | (apply EvW.pickT; exact rfl; exact rfl) | (apply EvW.pickF; exact rfl; exact rfl) | (apply EvW.lenRow; exact rfl; exact UndC.eq; assumption) | (apply EvW.lenOwn; exact rfl; exact UndC.eq; (focus ((repeat constructor); done))) | (apply EvW.idxRow; exact rfl; exact rfl; exact UndC.eq; exact SzC.eq; assumption; omega; omega) | (apply EvW.idxOwn; exact rfl; exact rfl; exact UndC.eq; exact SzC.eq; (focus ((repeat constructor); done)); omega; omega) | (apply EvW.ldInt; exact rfl; exact ScalC.eq; assumption; omega) | (apply EvW.ldIntOwn; exact rfl; exact ScalC.eq; (focus ((repeat constructor); done)); omega) | (apply EvW.fldRow; exact rfl; exact FldC.eq; assumption; omega) | (apply EvW.fldOwn; exact rfl; exact FldC.eq; (focus ((repeat constructor); done)); omega)))
        | refine WC.seq ?_ | refine WC.region ?_ | refine WL.nil ?_ | refine WE.next ?_ | refine WC.skip ?_ | refine WC.exit ?_ | refine WE.pass ?_ | refine WE.hit ?_ | refine WE.miss rfl ?_ | refine WE.out ?_ | refine WC.ret ?_ | refine WE.passRet ?_ | refine WE.outRet ?_ | refine WL.wanted rfl rfl rfl ?_ | refine WL.unwanted rfl rfl rfl rfl ?_ | refine WL.unwantedU rfl rfl rfl rfl ?_ | refine WL.unwanted0 rfl rfl rfl ?_
      refine WE.ret1 rfl rfl ?_
      exact ⟨rfl, rfl⟩
    · rw [decide_eq_true h0, decide_eq_false hl]
      repeat first
        | (apply WL.q; exact rfl; exact rfl; exact rfl; (first | (apply EvW.move; exact rfl) | (apply EvW.assign; exact rfl) | (apply EvW.fieldAddr0; exact rfl; exact FldC.eq) | (apply EvW.fieldAddr; exact rfl; exact FldC.eq) | (apply EvW.load; exact rfl; exact ScalC.eq; (focus ((repeat constructor); done)); exact rfl) | (apply EvW.ldSeen; exact rfl; exact ScalC.eq; assumption; (first | exact rfl | assumption)) | (apply EvW.ldFld; exact rfl; exact ScalC.eq; assumption; exact fun _ => rfl; omega; exact rfl; exact inferInstance) | (apply EvW.lenL; exact rfl; exact UndC.eq) | (apply EvW.cmpT; exact rfl; exact rfl; exact rfl; omega) | (apply EvW.cmpF; exact rfl; exact rfl; exact rfl; omega) | (apply EvW.cmp; exact rfl; exact rfl; exact rfl) | (apply EvW.pickT; exact rfl; exact rfl) | (apply EvW.pickF; exact rfl; exact rfl) | (apply EvW.lenRow; exact rfl; exact UndC.eq; assumption) | (apply EvW.lenOwn; exact rfl; exact UndC.eq; (focus ((repeat constructor); done))) | (apply EvW.idxRow; exact rfl; exact rfl; exact UndC.eq; exact SzC.eq; assumption; omega; omega) | (apply EvW.idxOwn; exact rfl; exact rfl; exact UndC.eq; exact SzC.eq; (focus ((repeat constructor); done)); omega; omega) | (apply EvW.ldInt; exact rfl; exact ScalC.eq; assumption; omega) | (apply EvW.ldIntOwn; exact rfl; exact ScalC.eq; (focus ((repeat constructor); done)); omega) | (apply EvW.fldRow; exact rfl; exact FldC.eq; assumption; omega) | (apply EvW.fldOwn; exact rfl; exact FldC.eq; (focus ((repeat constructor); done)); omega)))
        | refine WC.seq ?_ | refine WC.region ?_ | refine WL.nil ?_ | refine WE.next ?_ | refine WC.skip ?_ | refine WC.exit ?_ | refine WE.pass ?_ | refine WE.hit ?_ | refine WE.miss rfl ?_ | refine WE.out ?_ | refine WC.ret ?_ | refine WE.passRet ?_ | refine WE.outRet ?_ | refine WL.wanted rfl rfl rfl ?_ | refine WL.unwanted rfl rfl rfl rfl ?_ | refine WL.unwantedU rfl rfl rfl rfl ?_ | refine WL.unwanted0 rfl rfl rfl ?_
      repeat refine WC.seq ?_
      apply WC.drawQ Try.mixed
      · (focus ((repeat (first | exact Restr.nil | (apply Restr.keep; exact rfl; exact rfl) | (apply Restr.drop; exact rfl))); done))
      · exact rfl
      · decide +kernel
      · decide +kernel
      · repeat first
          | exact Draws.nil
          | (apply Draws.skip; exact rfl; exact rfl)
          | (apply Draws.q0; exact rfl
             (first | (apply EvW.move; exact rfl) | (apply EvW.assign; exact rfl) | (apply EvW.fieldAddr0; exact rfl; exact FldC.eq) | (apply EvW.fieldAddr; exact rfl; exact FldC.eq) | (apply EvW.load; exact rfl; exact ScalC.eq; (focus ((repeat constructor); done)); exact rfl) | (apply EvW.ldSeen; exact rfl; exact ScalC.eq; assumption; (first | exact rfl | assumption)) | (apply EvW.ldFld; exact rfl; exact ScalC.eq; assumption; exact fun _ => rfl; omega; exact rfl; exact inferInstance) | (apply EvW.lenL; exact rfl; exact UndC.eq) | (apply EvW.cmpT; exact rfl; exact rfl; exact rfl; omega) | (apply EvW.cmpF; exact rfl; exact rfl; exact rfl; omega) | (apply EvW.cmp; exact rfl; exact rfl; exact rfl) | (apply EvW.pickT; exact rfl; exact rfl) | (apply EvW.pickF; exact rfl; exact rfl) | (apply EvW.lenRow; exact rfl; exact UndC.eq; assumption) | (apply EvW.lenOwn; exact rfl; exact UndC.eq; (focus ((repeat constructor); done))) | (apply EvW.idxRow; exact rfl; exact rfl; exact UndC.eq; exact SzC.eq; assumption; omega; omega) | (apply EvW.idxOwn; exact rfl; exact rfl; exact UndC.eq; exact SzC.eq; (focus ((repeat constructor); done)); omega; omega) | (apply EvW.ldInt; exact rfl; exact ScalC.eq; assumption; omega) | (apply EvW.ldIntOwn; exact rfl; exact ScalC.eq; (focus ((repeat constructor); done)); omega) | (apply EvW.fldRow; exact rfl; exact FldC.eq; assumption; omega) | (apply EvW.fldOwn; exact rfl; exact FldC.eq; (focus ((repeat constructor); done)); omega)))
      apply WE.writ
      · (focus ((repeat (first | exact Writ.nil | apply Writ.some | apply Writ.none)); done))
      repeat first
        | (apply WL.q; exact rfl; exact rfl; exact rfl; (first | (apply EvW.move; exact rfl) | (apply EvW.assign; exact rfl) | (apply EvW.fieldAddr0; exact rfl; exact FldC.eq) | (apply EvW.fieldAddr; exact rfl; exact FldC.eq) | (apply EvW.load; exact rfl; exact ScalC.eq; (focus ((repeat constructor); done)); exact rfl) | (apply EvW.ldSeen; exact rfl; exact ScalC.eq; assumption; (first | exact rfl | assumption)) | (apply EvW.ldFld; exact rfl; exact ScalC.eq; assumption; exact fun _ => rfl; omega; exact rfl; exact inferInstance) | (apply EvW.lenL; exact rfl; exact UndC.eq) | (apply EvW.cmpT; exact rfl; exact rfl; exact rfl; omega) | (apply EvW.cmpF; exact rfl; exact rfl; exact rfl; omega) | (apply EvW.cmp; exact rfl; exact rfl; exact rfl) | (apply EvW.pickT; exact rfl; exact rfl) | (apply EvW.pickF; exact rfl; exact rfl) | (apply EvW.lenRow; exact rfl; exact UndC.eq; assumption) | (apply EvW.lenOwn; exact rfl; exact UndC.eq; (focus ((repeat constructor); done))) | (apply EvW.idxRow; exact rfl; exact rfl; exact UndC.eq; exact SzC.eq; assumption; omega; omega) | (apply EvW.idxOwn; exact rfl; exact rfl; exact UndC.eq; exact SzC.eq; (focus ((repeat constructor); done)); omega; omega) | (apply EvW.ldInt; exact rfl; exact ScalC.eq; assumption; omega) | (apply EvW.ldIntOwn; exact rfl; exact ScalC.eq; (focus ((repeat constructor); done)); omega) | (apply EvW.fldRow; exact rfl; exact FldC.eq; assumption; omega) | (apply EvW.fldOwn; exact rfl; exact FldC.eq; (focus ((repeat constructor); done)); omega)))
        | refine WC.seq ?_ | refine WC.region ?_ | refine WL.nil ?_ | refine WE.next ?_ | refine WC.skip ?_ | refine WC.exit ?_ | refine WE.pass ?_ | refine WE.hit ?_ | refine WE.miss rfl ?_ | refine WE.out ?_ | refine WC.ret ?_ | refine WE.passRet ?_ | refine WE.outRet ?_ | refine WL.wanted rfl rfl rfl ?_ | refine WL.unwanted rfl rfl rfl rfl ?_ | refine WL.unwantedU rfl rfl rfl rfl ?_ | refine WL.unwanted0 rfl rfl rfl ?_
      refine WE.ret1 rfl rfl ?_
      exact ⟨rfl, rfl⟩
  · rw [decide_eq_false h0]
    repeat first
      | (apply WL.q; exact rfl; exact rfl; exact rfl; (first | (apply EvW.move; exact rfl) | (apply EvW.assign; exact rfl) | (apply EvW.fieldAddr0; exact rfl; exact FldC.eq) | (apply EvW.fieldAddr; exact rfl; exact FldC.eq) | (apply EvW.load; exact rfl; exact ScalC.eq; (focus ((repeat constructor); done)); exact rfl) | (apply EvW.ldSeen; exact rfl; exact ScalC.eq; assumption; (first | exact rfl | assumption)) | (apply EvW.ldFld; exact rfl; exact ScalC.eq; assumption; exact fun _ => rfl; omega; exact rfl; exact inferInstance) | (apply EvW.lenL; exact rfl; exact UndC.eq) | (apply EvW.cmpT; exact rfl; exact rfl; exact rfl; omega) | (apply EvW.cmpF; exact rfl; exact rfl; exact rfl; omega) | (apply EvW.cmp; exact rfl; exact rfl; exact rfl) | (apply EvW.pickT; exact rfl; exact rfl) | (apply EvW.pickF; exact rfl; exact rfl) | (apply EvW.lenRow; exact rfl; exact UndC.eq; assumption) | (apply EvW.lenOwn; exact rfl; exact UndC.eq; (focus ((repeat constructor); done))) | (apply EvW.idxRow; exact rfl; exact rfl; exact UndC.eq; exact SzC.eq; assumption; omega; omega) | (apply EvW.idxOwn; exact rfl; exact rfl; exact UndC.eq; exact SzC.eq; (focus ((repeat constructor); done)); omega; omega) | (apply EvW.ldInt; exact rfl; exact ScalC.eq; assumption; omega) | (apply EvW.ldIntOwn; exact rfl; exact ScalC.eq; (focus ((repeat constructor); done)); omega) | (apply EvW.fldRow; exact rfl; exact FldC.eq; assumption; omega) | (apply EvW.fldOwn; exact rfl; exact FldC.eq; (focus ((repeat constructor); done)); omega)))
      | refine WC.seq ?_ | refine WC.region ?_ | refine WL.nil ?_ | refine WE.next ?_ | refine WC.skip ?_ | refine WC.exit ?_ | refine WE.pass ?_ | refine WE.hit ?_ | refine WE.miss rfl ?_ | refine WE.out ?_ | refine WC.ret ?_ | refine WE.passRet ?_ | refine WE.outRet ?_ | refine WL.wanted rfl rfl rfl ?_ | refine WL.unwanted rfl rfl rfl rfl ?_ | refine WL.unwantedU rfl rfl rfl rfl ?_ | refine WL.unwanted0 rfl rfl rfl ?_
    repeat refine WC.seq ?_
    apply WC.drawQ Try.mixed
    · (focus ((repeat (first | exact Restr.nil | (apply Restr.keep; exact rfl; exact rfl) | (apply Restr.drop; exact rfl))); done))
    · exact rfl
    · decide +kernel
    · decide +kernel
    · repeat first
        | exact Draws.nil
        | (apply Draws.skip; exact rfl; exact rfl)
        | (apply Draws.q0; exact rfl
           (first | (apply EvW.move; exact rfl) | (apply EvW.assign; exact rfl) | (apply EvW.fieldAddr0; exact rfl; exact FldC.eq) | (apply EvW.fieldAddr; exact rfl; exact FldC.eq) | (apply EvW.load; exact rfl; exact ScalC.eq; (focus ((repeat constructor); done)); exact rfl) | (apply EvW.ldSeen; exact rfl; exact ScalC.eq; assumption; (first | exact rfl | assumption)) | (apply EvW.ldFld; exact rfl; exact ScalC.eq; assumption; exact fun _ => rfl; omega; exact rfl; exact inferInstance) | (apply EvW.lenL; exact rfl; exact UndC.eq) | (apply EvW.cmpT; exact rfl; exact rfl; exact rfl; omega) | (apply EvW.cmpF; exact rfl; exact rfl; exact rfl; omega) | (apply EvW.cmp; exact rfl; exact rfl; exact rfl) | (apply EvW.pickT; exact rfl; exact rfl) | (apply EvW.pickF; exact rfl; exact rfl) | (apply EvW.lenRow; exact rfl; exact UndC.eq; assumption) | (apply EvW.lenOwn; exact rfl; exact UndC.eq; (focus ((repeat constructor); done))) | (apply EvW.idxRow; exact rfl; exact rfl; exact UndC.eq; exact SzC.eq; assumption; omega; omega) | (apply EvW.idxOwn; exact rfl; exact rfl; exact UndC.eq; exact SzC.eq; (focus ((repeat constructor); done)); omega; omega) | (apply EvW.ldInt; exact rfl; exact ScalC.eq; assumption; omega) | (apply EvW.ldIntOwn; exact rfl; exact ScalC.eq; (focus ((repeat constructor); done)); omega) | (apply EvW.fldRow; exact rfl; exact FldC.eq; assumption; omega) | (apply EvW.fldOwn; exact rfl; exact FldC.eq; (focus ((repeat constructor); done)); omega)))
    apply WE.writ
    · (focus ((repeat (first | exact Writ.nil | apply Writ.some | apply Writ.none)); done))
    repeat first
      | (apply WL.q; exact rfl; exact rfl; exact rfl; (first | (apply EvW.move; exact rfl) | (apply EvW.assign; exact rfl) | (apply EvW.fieldAddr0; exact rfl; exact FldC.eq) | (apply EvW.fieldAddr; exact rfl; exact FldC.eq) | (apply EvW.load; exact rfl; exact ScalC.eq; (focus ((repeat constructor); done)); exact rfl) | (apply EvW.ldSeen; exact rfl; exact ScalC.eq; assumption; (first | exact rfl | assumption)) | (apply EvW.ldFld; exact rfl; exact ScalC.eq; assumption; exact fun _ => rfl; omega; exact rfl; exact inferInstance) | (apply EvW.lenL; exact rfl; exact UndC.eq) | (apply EvW.cmpT; exact rfl; exact rfl; exact rfl; omega) | (apply EvW.cmpF; exact rfl; exact rfl; exact rfl; omega) | (apply EvW.cmp; exact rfl; exact rfl; exact rfl) | (apply EvW.pickT; exact rfl; exact rfl) | (apply EvW.pickF; exact rfl; exact rfl) | (apply EvW.lenRow; exact rfl; exact UndC.eq; assumption) | (apply EvW.lenOwn; exact rfl; exact UndC.eq; (focus ((repeat constructor); done))) | (apply EvW.idxRow; exact rfl; exact rfl; exact UndC.eq; exact SzC.eq; assumption; omega; omega) | (apply EvW.idxOwn; exact rfl; exact rfl; exact UndC.eq; exact SzC.eq; (focus ((repeat constructor); done)); omega; omega) | (apply EvW.ldInt; exact rfl; exact ScalC.eq; assumption; omega) | (apply EvW.ldIntOwn; exact rfl; exact ScalC.eq; (focus ((repeat constructor); done)); omega) | (apply EvW.fldRow; exact rfl; exact FldC.eq; assumption; omega) | (apply EvW.fldOwn; exact rfl; exact FldC.eq; (focus ((repeat constructor); done)); omega)))
      | refine WC.seq ?_ | refine WC.region ?_ | refine WL.nil ?_ | refine WE.next ?_ | refine WC.skip ?_ | refine WC.exit ?_ | refine WE.pass ?_ | refine WE.hit ?_ | refine WE.miss rfl ?_ | refine WE.out ?_ | refine WC.ret ?_ | refine WE.passRet ?_ | refine WE.outRet ?_ | refine WL.wanted rfl rfl rfl ?_ | refine WL.unwanted rfl rfl rfl rfl ?_ | refine WL.unwantedU rfl rfl rfl rfl ?_ | refine WL.unwanted0 rfl rfl rfl ?_
    refine WE.ret1 rfl rfl ?_
    exact ⟨rfl, rfl⟩
end Go.Proofs.Ytamofjpadnnppaa
namespace Go.Proofs.Ytamofjpadnnppaa
open Go.RowKit Go.BK
/-- A number's bytes, from the highest. -/
def be (k : Nat) (n : Int) : List UInt8 := (List.range k).map fun j => bytOf (n.fdiv (2 ^ (8 * (k - 1 - j))))
theorem be_length (k : Nat) (n : Int) : (be k n).length = k := by simp [be]
def PW.num (k : Nat) (m : PW) (n : Int) : PW := (if n < 0 ∨ n.fdiv (2 ^ (8 * k)) ≠ 0 then m.note 32 else m).put (be k n)
theorem PW.fits.num {k : Nat} {m : PW} {n : Int} {r : Nat} (h : m.fits (k + r)) : (m.num k n).fits r := by
  unfold PW.num
  refine PW.fits.put ?_
  rw [be_length]; split <;> exact h
end Go.Proofs.Ytamofjpadnnppaa
namespace Go.Proofs.Ytamofjpadnnppaa
open Go.RowKit Go.BK
def PW.init (n : Int) : PW := ⟨0, [], max n 0⟩
def PW.said (m : PW) : List UInt8 := if m.e = 0 then m.out else []
end Go.Proofs.Ytamofjpadnnppaa
namespace Go.Proofs.Ytamofjpadnnppaa
open Go.RowKit Go.BK
theorem read_spec (l : List UInt8) (w : World) (S : BSet) (hS : (sepL []).sat S w) :
    Tri Try.prog 71 #[str l] w S fun u A => ∃ b, u = ptr b 0 ∧ A = [.blk b #[i64 0, str l] 152] := by
  refine Tri.enter (l := [str l]) Try.func71 rfl Try.ntmps71 rfl [(0, str l)] (subA rfl) hS ?_
  repeat first
    | (apply WL.q; exact rfl; exact rfl; exact rfl; (first | (apply EvW.move; exact rfl) | (apply EvW.assign; exact rfl) | (apply EvW.build; exact PlC.eq; exact ZvC.eq; exact rfl; exact rfl; (focus ((repeat (first | exact Fills.nil | (apply Fills.cons; exact rfl; (first | assumption | exact rfl); exact rfl) | exact SetMany.nil | apply SetMany.cons | apply SetMany.succ)); done)))))
    | refine WC.seq ?_ | refine WC.region ?_ | refine WL.nil ?_ | refine WE.next ?_ | refine WC.skip ?_ | refine WC.exit ?_ | refine WE.pass ?_ | refine WE.hit ?_ | refine WE.miss rfl ?_ | refine WE.out ?_ | refine WC.ret ?_ | refine WE.passRet ?_ | refine WE.outRet ?_ | refine WL.wanted rfl rfl rfl ?_
  try refine WL.wanted rfl rfl rfl ?_
  (apply WL.box; exact rfl; exact rfl; exact rfl; intro b)
  repeat first
    | (apply WL.q; exact rfl; exact rfl; exact rfl; (first | (apply EvW.move; exact rfl) | (apply EvW.assign; exact rfl) | (apply EvW.build; exact PlC.eq; exact ZvC.eq; exact rfl; exact rfl; (focus ((repeat (first | exact Fills.nil | (apply Fills.cons; exact rfl; (first | assumption | exact rfl); exact rfl) | exact SetMany.nil | apply SetMany.cons | apply SetMany.succ)); done)))))
    | refine WC.seq ?_ | refine WC.region ?_ | refine WL.nil ?_ | refine WE.next ?_ | refine WC.skip ?_ | refine WC.exit ?_ | refine WE.pass ?_ | refine WE.hit ?_ | refine WE.miss rfl ?_ | refine WE.out ?_ | refine WC.ret ?_ | refine WE.passRet ?_ | refine WE.outRet ?_ | refine WL.wanted rfl rfl rfl ?_
  refine WE.ret1 rfl rfl ?_
  exact ⟨b, rfl, rfl⟩
end Go.Proofs.Ytamofjpadnnppaa
namespace Go.Proofs.Ytamofjpadnnppaa
open Go.RowKit Go.BK
/-- A reader: its error, what is left. -/
structure PR where
  e : Int
  s : List UInt8
def PR.note (m : PR) (c : Int) : PR := { m with e := if m.e = 0 then c else m.e }
/-- What is taken: whether, the bytes, the reader behind it. -/
def PR.take (m : PR) (skip n : Nat) : List UInt8 × PR :=
  if m.s.length < skip + n then ([], m.note 1) else if m.e = 0 then ((m.s.drop skip).take n, { m with s := m.s.drop (skip + n) }) else ([], m)
def numOf (l : List UInt8) : Int := l.foldl (fun x c => x * 256 + c.toNat) 0
theorem note_specR (b : Nat) (m : PR) (c : Int) (w : World) (S : BSet) (hS : (sepL [.blk b #[i64 (m).e, str (m).s] 152]).sat S w) :
    Tri Try.prog 91 #[ptr b 0, i64 c] w S fun u A => u = .tuple #[] ∧ A = [.blk b #[i64 (m.note c).e, str (m.note c).s] 152] :=
  note_spec b 152 m.e c [str m.s] _ rfl w S hS
theorem take_spec (b : Nat) (m : PR) (skip n : Nat) (w : World) (S : BSet) (hS : (sepL [.blk b #[i64 (m).e, str (m).s] 152]).sat S w) (hl : m.s.length ≤ 1152921504606846976) (hk : skip ≤ m.s.length) (hn : n ≤ 1152921504606846976) :
    Tri Try.prog 90 #[ptr b 0, i64 skip, i64 n] w S fun u A => u = str (m.take skip n).1 ∧ A = [.blk b #[i64 ((m.take skip n).2).e, str ((m.take skip n).2).s] 152] := by
  refine Tri.enter (l := [ptr b 0, i64 skip, i64 n]) Try.func90 rfl Try.ntmps90 rfl [(0, ptr b 0), (1, i64 skip), (2, i64 n)] (subA rfl) hS ?_
  by_cases h : (n : Int) > m.s.length - skip
  · have hm : m.take skip n = ([], m.note 1) := by unfold PR.take; rw [if_pos (by omega)]
    have hne : ¬ (m.note 1).e = 0 := by simp only [PR.note]; split <;> omega
    rw [hm]
    repeat first
      | (apply WL.q; exact rfl; exact rfl; exact rfl; (first | (apply EvW.move; exact rfl) | (apply EvW.assign; exact rfl) | (apply EvW.nilPtr; exact rfl) | (apply EvW.fieldAddr0; exact rfl; exact FldC.eq) | (apply EvW.load; exact rfl; exact ScalC.eq; (focus ((repeat constructor); done)); exact rfl) | (apply EvW.lenS; exact rfl; exact UndC.eq) | (apply EvW.cmpT; exact rfl; exact rfl; exact rfl; omega) | (apply EvW.arN; exact rfl; exact rfl; exact rfl; refine i64_in ?_ ?_ <;> omega)))
      | refine WC.seq ?_ | refine WC.region ?_ | refine WL.nil ?_ | refine WE.next ?_ | refine WC.condT rfl ?_
    try refine WL.wanted rfl rfl rfl ?_
    apply WL.callT
    · exact rfl
    · exact rfl
    · exact fun w1 S1 hS1 hs1 ho1 => note_specR b m 1 w1 S1 hS1
    · exact fun w => Try.call91 _ w
    · (focus ((repeat constructor); done))
    rintro _ _ ⟨rfl, rfl⟩
    first | refine WL.app4 ?_ | refine WL.app3 ?_ | refine WL.app2 ?_ | refine WL.app1 ?_ | refine WL.app0 ?_ | skip
    repeat first
      | (apply WL.q; exact rfl; exact rfl; exact rfl; (first | (apply EvW.move; exact rfl) | (apply EvW.nilPtr; exact rfl) | (apply EvW.fieldAddr0; exact rfl; exact FldC.eq)))
      | refine WC.seq ?_ | refine WC.region ?_ | refine WL.nil ?_ | refine WE.next ?_
    try refine WL.wanted rfl rfl rfl ?_
    apply WL.callT
    · exact rfl
    · exact rfl
    · exact fun w1 S1 hS1 hs1 ho1 => well_spec b 152 (m.note 1).e [str m.s] w1 S1 hS1
    · exact fun w => Try.call87 _ w
    · (focus ((repeat constructor); done))
    rintro _ _ ⟨rfl, rfl⟩
    first | refine WL.app4 ?_ | refine WL.app3 ?_ | refine WL.app2 ?_ | refine WL.app1 ?_ | refine WL.app0 ?_ | skip
    simp only [decide_eq_false hne]
    repeat first
      | (apply WL.q; exact rfl; exact rfl; exact rfl; (first | (apply EvW.assign; exact rfl) | (apply EvW.notF; exact rfl)))
      | refine WC.seq ?_ | refine WC.region ?_ | refine WL.nil ?_ | refine WE.next ?_ | refine WC.condT rfl ?_ | refine WC.ret ?_ | refine WE.passRet ?_
    refine WE.ret1 rfl rfl ?_
    exact ⟨rfl, rfl⟩
  · by_cases he : m.e = 0
    · have hm : m.take skip n = ((m.s.drop skip).take n, { m with s := m.s.drop (skip + n) }) := by unfold PR.take; rw [if_neg (by omega), if_pos he]
      rw [hm]
      repeat first
        | (apply WL.q; exact rfl; exact rfl; exact rfl; (first | (apply EvW.move; exact rfl) | (apply EvW.assign; exact rfl) | (apply EvW.nilPtr; exact rfl) | (apply EvW.fieldAddr0; exact rfl; exact FldC.eq) | (apply EvW.load; exact rfl; exact ScalC.eq; (focus ((repeat constructor); done)); exact rfl) | (apply EvW.lenS; exact rfl; exact UndC.eq) | (apply EvW.cmpF; exact rfl; exact rfl; exact rfl; omega) | (apply EvW.arN; exact rfl; exact rfl; exact rfl; refine i64_in ?_ ?_ <;> omega)))
        | refine WC.seq ?_ | refine WC.region ?_ | refine WL.nil ?_ | refine WE.next ?_ | refine WC.skip ?_ | refine WC.condF rfl ?_
      try refine WL.wanted rfl rfl rfl ?_
      apply WL.callT
      · exact rfl
      · exact rfl
      · exact fun w1 S1 hS1 hs1 ho1 => well_spec b 152 m.e [str m.s] w1 S1 hS1
      · exact fun w => Try.call87 _ w
      · (focus ((repeat constructor); done))
      rintro _ _ ⟨rfl, rfl⟩
      first | refine WL.app4 ?_ | refine WL.app3 ?_ | refine WL.app2 ?_ | refine WL.app1 ?_ | refine WL.app0 ?_ | skip
      simp only [decide_eq_true he]
      repeat first
        | (apply WL.q; exact rfl; exact rfl; exact rfl; (first | (apply EvW.move; exact rfl) | (apply EvW.assign; exact rfl) | (apply EvW.nilPtr; exact rfl) | (apply EvW.fieldAddr0; exact rfl; exact FldC.eq) | (apply EvW.load; exact rfl; exact ScalC.eq; (focus ((repeat constructor); done)); exact rfl) | (apply EvW.arN; exact rfl; exact rfl; exact rfl; refine i64_in ?_ ?_ <;> omega) | (apply EvW.notT; exact rfl) | (apply EvW.sliceS; exact rfl; exact UndC.eq; exact rfl; exact rfl; omega; omega; omega) | (apply EvW.sliceS_lo; exact rfl; exact UndC.eq; exact rfl; omega; omega)))
        | refine WC.seq ?_ | refine WC.region ?_ | refine WL.nil ?_ | refine WE.next ?_ | refine WC.skip ?_ | refine WC.condF rfl ?_ | refine WC.ret ?_ | (apply WL.store; exact rfl; exact rfl; (first | assumption | exact rfl); exact SzC.eq; (first | assumption | exact rfl); (focus ((repeat constructor); done)))
      refine WE.ret1 rfl rfl ?_
      have e1 : ((skip : Int) + (n : Int)).toNat = skip + n := by omega
      have e2 : ((skip : Int)).toNat = skip := by omega
      exact ⟨by rw [e1, e2, List.drop_take]; (try rw [Nat.add_sub_cancel_left]), by rw [e1]; (try rfl)⟩
    · have hm : m.take skip n = ([], m) := by unfold PR.take; rw [if_neg (by omega), if_neg he]
      rw [hm]
      repeat first
        | (apply WL.q; exact rfl; exact rfl; exact rfl; (first | (apply EvW.move; exact rfl) | (apply EvW.assign; exact rfl) | (apply EvW.nilPtr; exact rfl) | (apply EvW.fieldAddr0; exact rfl; exact FldC.eq) | (apply EvW.load; exact rfl; exact ScalC.eq; (focus ((repeat constructor); done)); exact rfl) | (apply EvW.lenS; exact rfl; exact UndC.eq) | (apply EvW.cmpF; exact rfl; exact rfl; exact rfl; omega) | (apply EvW.arN; exact rfl; exact rfl; exact rfl; refine i64_in ?_ ?_ <;> omega)))
        | refine WC.seq ?_ | refine WC.region ?_ | refine WL.nil ?_ | refine WE.next ?_ | refine WC.skip ?_ | refine WC.condF rfl ?_
      try refine WL.wanted rfl rfl rfl ?_
      apply WL.callT
      · exact rfl
      · exact rfl
      · exact fun w1 S1 hS1 hs1 ho1 => well_spec b 152 m.e [str m.s] w1 S1 hS1
      · exact fun w => Try.call87 _ w
      · (focus ((repeat constructor); done))
      rintro _ _ ⟨rfl, rfl⟩
      first | refine WL.app4 ?_ | refine WL.app3 ?_ | refine WL.app2 ?_ | refine WL.app1 ?_ | refine WL.app0 ?_ | skip
      simp only [decide_eq_false he]
      repeat first
        | (apply WL.q; exact rfl; exact rfl; exact rfl; (first | (apply EvW.assign; exact rfl) | (apply EvW.notF; exact rfl)))
        | refine WC.seq ?_ | refine WC.region ?_ | refine WL.nil ?_ | refine WE.next ?_ | refine WC.condT rfl ?_ | refine WC.ret ?_ | refine WE.passRet ?_
      refine WE.ret1 rfl rfl ?_
      exact ⟨rfl, rfl⟩
theorem left_spec (b : Nat) (m : PR) (w : World) (S : BSet) (hS : (sepL [.blk b #[i64 (m).e, str (m).s] 152]).sat S w) :
    Tri Try.prog 77 #[ptr b 0] w S fun u A => u = i64 m.s.length ∧ A = [.blk b #[i64 (m).e, str (m).s] 152] := by
  refine Tri.enter (l := [ptr b 0]) Try.func77 rfl Try.ntmps77 rfl [(0, ptr b 0)] (subA rfl) hS ?_
  repeat first
    | (apply WL.q; exact rfl; exact rfl; exact rfl; (first | (apply EvW.move; exact rfl) | (apply EvW.assign; exact rfl) | (apply EvW.nilPtr; exact rfl) | (apply EvW.fieldAddr0; exact rfl; exact FldC.eq) | (apply EvW.load; exact rfl; exact ScalC.eq; (focus ((repeat constructor); done)); exact rfl) | (apply EvW.lenS; exact rfl; exact UndC.eq)))
    | refine WC.seq ?_ | refine WC.region ?_ | refine WL.nil ?_ | refine WE.next ?_ | refine WC.ret ?_
  refine WE.ret1 rfl rfl ?_
  exact ⟨rfl, rfl⟩
def PR.fin (m : PR) : Int := if m.e = 0 ∧ m.s ≠ [] then 3 else m.e
theorem rend_spec (b : Nat) (m : PR) (w : World) (S : BSet) (hS : (sepL [.blk b #[i64 (m).e, str (m).s] 152]).sat S w) :
    Tri Try.prog 78 #[ptr b 0] w S fun u A => u = i64 m.fin ∧ A = [.blk b #[i64 (m).e, str (m).s] 152] := by
  refine Tri.enter (l := [ptr b 0]) Try.func78 rfl Try.ntmps78 rfl [(0, ptr b 0)] (subA rfl) hS ?_
  repeat first
    | (apply WL.q; exact rfl; exact rfl; exact rfl; (first | (apply EvW.move; exact rfl) | (apply EvW.assign; exact rfl) | (apply EvW.nilPtr; exact rfl) | (apply EvW.fieldAddr0; exact rfl; exact FldC.eq)))
    | refine WC.seq ?_ | refine WC.region ?_ | refine WL.nil ?_ | refine WE.next ?_
  try refine WL.wanted rfl rfl rfl ?_
  apply WL.callT
  · exact rfl
  · exact rfl
  · exact fun w1 S1 hS1 hs1 ho1 => well_spec b 152 m.e [str m.s] w1 S1 hS1
  · exact fun w => Try.call87 _ w
  · (focus ((repeat constructor); done))
  rintro _ _ ⟨rfl, rfl⟩
  first | refine WL.app4 ?_ | refine WL.app3 ?_ | refine WL.app2 ?_ | refine WL.app1 ?_ | refine WL.app0 ?_ | skip
  by_cases he : m.e = 0
  · simp only [decide_eq_true he]
    by_cases hs : m.s = []
    · repeat first
        | (apply WL.q; exact rfl; exact rfl; exact rfl; (first | (apply EvW.move; exact rfl) | (apply EvW.nilPtr; exact rfl) | (apply EvW.fieldAddr0; exact rfl; exact FldC.eq) | (apply EvW.load; exact rfl; exact ScalC.eq; (focus ((repeat constructor); done)); exact rfl) | (apply EvW.pickT; exact rfl; exact rfl) | (apply EvW.sne; exact rfl; exact rfl)))
        | refine WL.nil ?_ | refine WE.next ?_ | refine WL.wanted rfl rfl rfl ?_
      simp only [decide_eq_false (show ¬ m.s ≠ [] by simp [hs])]
      repeat first
        | (apply WL.q; exact rfl; exact rfl; exact rfl; (first | (apply EvW.move; exact rfl) | (apply EvW.assign; exact rfl) | (apply EvW.nilPtr; exact rfl) | (apply EvW.fieldAddr0; exact rfl; exact FldC.eq) | (apply EvW.load; exact rfl; exact ScalC.eq; (focus ((repeat constructor); done)); exact rfl)))
        | refine WC.seq ?_ | refine WC.region ?_ | refine WL.nil ?_ | refine WE.next ?_ | refine WC.skip ?_ | refine WC.condF rfl ?_ | refine WC.ret ?_
      refine WE.ret1 rfl rfl ?_
      exact ⟨by simp [PR.fin, hs], rfl⟩
    · repeat first
        | (apply WL.q; exact rfl; exact rfl; exact rfl; (first | (apply EvW.move; exact rfl) | (apply EvW.nilPtr; exact rfl) | (apply EvW.fieldAddr0; exact rfl; exact FldC.eq) | (apply EvW.load; exact rfl; exact ScalC.eq; (focus ((repeat constructor); done)); exact rfl) | (apply EvW.pickT; exact rfl; exact rfl) | (apply EvW.sne; exact rfl; exact rfl)))
        | refine WL.nil ?_ | refine WE.next ?_ | refine WL.wanted rfl rfl rfl ?_
      simp only [decide_eq_true (show m.s ≠ [] by simp [hs])]
      repeat first
        | (apply WL.q; exact rfl; exact rfl; exact rfl; (first | (apply EvW.assign; exact rfl)))
        | refine WC.seq ?_ | refine WC.region ?_ | refine WL.nil ?_ | refine WE.next ?_ | refine WC.condT rfl ?_ | refine WC.ret ?_ | refine WE.passRet ?_
      refine WE.ret1 rfl rfl ?_
      exact ⟨by simp [PR.fin, hs, he], rfl⟩
  · simp only [decide_eq_false he]
    repeat first
      | (apply WL.q; exact rfl; exact rfl; exact rfl; (first | (apply EvW.move; exact rfl) | (apply EvW.assign; exact rfl) | (apply EvW.nilPtr; exact rfl) | (apply EvW.fieldAddr0; exact rfl; exact FldC.eq) | (apply EvW.load; exact rfl; exact ScalC.eq; (focus ((repeat constructor); done)); exact rfl) | (apply EvW.pickF; exact rfl; exact rfl)))
      | refine WC.seq ?_ | refine WC.region ?_ | refine WL.nil ?_ | refine WE.next ?_ | refine WC.skip ?_ | refine WC.condF rfl ?_ | refine WC.ret ?_ | refine WL.unwanted rfl rfl rfl rfl ?_
    refine WE.ret1 rfl rfl ?_
    exact ⟨by simp [PR.fin, he], rfl⟩
theorem or_byte (x : Int) (c : UInt8) (h0 : 0 ≤ x) (h1 : x < 1099511627776) : IntKind.i64.wrap (BitVec.ofInt IntKind.i64.bits (IntKind.i64.wrap (x * 2 ^ (min (8 : Int).toNat IntKind.i64.bits))) ||| BitVec.ofInt IntKind.i64.bits (c.toNat : Int)).toNat = x * 256 + c.toNat := by
  obtain ⟨k, rfl⟩ := Int.eq_ofNat_of_zero_le h0
  have hc := c.toNat_lt
  have e1 : (min (8 : Int).toNat IntKind.i64.bits) = 8 := by decide
  have e2 : ((k : Int) * 2 ^ 8) = ((k * 256 : Nat) : Int) := by simp
  rw [e1, e2, wrap_in IntKind.i64 (x := ((k * 256 : Nat) : Int)) (i64_in (by omega) (by omega))]
  have e3 : IntKind.i64.bits = 64 := rfl
  rw [e3]
  have e4 : (BitVec.ofInt 64 ((k * 256 : Nat) : Int) ||| BitVec.ofInt 64 (c.toNat : Int)).toNat = k * 256 + c.toNat := by
    rw [BitVec.toNat_or, BitVec.ofInt_natCast, BitVec.ofInt_natCast, BitVec.toNat_ofNat, BitVec.toNat_ofNat, Nat.mod_eq_of_lt (by omega), Nat.mod_eq_of_lt (by omega)]
    have := Nat.shiftLeft_add_eq_or_of_lt (show c.toNat < 2 ^ 8 by omega) k
    rw [Nat.shiftLeft_eq] at this
    exact this.symm
  rw [e4, wrap_in IntKind.i64 (i64_in (by omega) (by omega))]
  simp
theorem numOf_snoc (l : List UInt8) (c : UInt8) : numOf (l ++ [c]) = numOf l * 256 + c.toNat := by simp [numOf]
theorem numOf_bd : ∀ (l : List UInt8), 0 ≤ numOf l ∧ numOf l < 256 ^ l.length := by
  intro l
  induction h : l.length generalizing l with
  | zero => rw [List.length_eq_zero_iff.1 h]; simp [numOf]
  | succ n ih =>
    have hne : l ≠ [] := by intro h'; rw [h'] at h; simp at h
    have hl := List.dropLast_concat_getLast hne
    have := ih l.dropLast (by simp [h])
    rw [← hl, numOf_snoc]
    have hc := (l.getLast hne).toNat_lt
    rw [Int.pow_succ]
    omega
theorem PR.take_len (m : PR) (a k : Nat) : (m.take a k).1.length ≤ k := by
  unfold PR.take
  split
  · simp
  · split
    · simp; omega
    · simp
theorem rfixed_spec (b : Nat) (m : PR) (k : Nat) (hk : k ≤ 4) (w : World) (S : BSet) (hS : (sepL [.blk b #[i64 (m).e, str (m).s] 152]).sat S w) (hl : m.s.length ≤ 1152921504606846976) :
    Tri Try.prog 84 #[ptr b 0, i64 k] w S fun u A => u = i64 (numOf (m.take 0 k).1) ∧ A = [.blk b #[i64 ((m.take 0 k).2).e, str ((m.take 0 k).2).s] 152] := by
  have htl := m.take_len 0 k
  refine Tri.enter (l := [ptr b 0, i64 k]) Try.func84 rfl Try.ntmps84 rfl [(0, ptr b 0), (1, i64 k)] (subA rfl) hS ?_
  repeat first
    | (apply WL.q; exact rfl; exact rfl; exact rfl; (first | (apply EvW.move; exact rfl) | (apply EvW.assign; exact rfl)))
    | refine WC.seq ?_ | refine WC.region ?_ | refine WL.nil ?_ | refine WE.next ?_
  try refine WL.wanted rfl rfl rfl ?_
  apply WL.callT
  · exact rfl
  · exact rfl
  · exact fun w1 S1 hS1 hs1 ho1 => take_spec b m 0 k w1 S1 hS1 hl (Nat.zero_le _) (by omega)
  · exact fun w => Try.call90 _ w
  · (focus ((repeat constructor); done))
  rintro _ _ ⟨rfl, rfl⟩
  first | refine WL.app4 ?_ | refine WL.app3 ?_ | refine WL.app2 ?_ | refine WL.app1 ?_ | refine WL.app0 ?_ | skip
  generalize (m.take 0 k).1 = l at htl
  generalize (m.take 0 k).2 = m2
  skip
  try refine WL.wanted rfl rfl rfl ?_
  (apply WL.bytesOf; exact rfl; exact rfl; exact UndC.eq; exact UndC.eq; exact UndC.eq; intro v)
  repeat first
    | (apply WL.q; exact rfl; exact rfl; exact rfl; (first | (apply EvW.move; exact rfl) | (apply EvW.lenOwn; exact rfl; exact UndC.eq; (focus ((repeat constructor); done)))))
    | refine WL.nil ?_ | refine WE.next ?_ | refine WC.block ?_
  refine WC.loop (σ := Nat) (fun s => [(13, i64 s), (12, i64 l.length), (11, v), (5, i64 (numOf (l.take s)))]) (fun _ => [.own 5 1 v l.length (l.map byt), .blk b #[i64 (m2).e, str (m2).s] 152]) (fun s => s ≤ l.length) (fun s => l.length - s) 0 ⟨rfl, rfl, rfl, rfl, trivial⟩ (fun _ h => h) (Nat.zero_le _) (fun s hs => ?_)
  by_cases hlt : (s : Int) < l.length
  · have hb := numOf_bd (l.take s)
    have hp : (256 : Int) ^ (l.take s).length ≤ 256 ^ 4 := by
      have h2 : (l.take s).length ≤ 4 := by simp; omega
      have h3 : (256 : Nat) ^ (l.take s).length ≤ 256 ^ 4 := Nat.pow_le_pow_right (by decide) h2
      have h4 := Int.ofNat_le.2 h3
      rw [Int.natCast_pow, Int.natCast_pow] at h4
      exact h4
    have hc := (l.getD ((s : Nat) : Int).toNat 0).toNat_lt
    have hn : numOf (l.take (s + 1)) = numOf (l.take s) * 256 + (l.getD s 0).toNat := by
      rw [List.take_add_one, List.getElem?_eq_getElem (by omega), Option.toList_some, numOf_snoc]
      simp [List.getD_eq_getElem?_getD, List.getElem?_eq_getElem (show s < l.length by omega)]
    repeat first
      | (apply WL.q; exact rfl; exact rfl; exact rfl; (first | (apply EvW.move; exact rfl) | (apply EvW.assign; exact rfl) | (apply EvW.cmpT; exact rfl; exact rfl; exact rfl; omega) | (apply EvW.arN; exact rfl; exact rfl; exact rfl; refine i64_in ?_ ?_ <;> omega) | (apply EvW.ar; exact rfl; exact rfl; exact rfl) | (apply EvW.convN; exact rfl; exact UndC.eq; exact UndC.eq; refine i64_in ?_ ?_ <;> omega) | (apply EvW.shl; exact rfl; exact rfl; omega) | (apply EvW.ldBytOwn; exact rfl; exact ScalC.eq; (focus ((repeat constructor); done)); omega) | (apply EvW.idxOwn; exact rfl; exact rfl; exact UndC.eq; exact SzC.eq; (focus ((repeat constructor); done)); omega; omega)))
      | refine WC.seq ?_ | refine WC.region ?_ | refine WL.nil ?_ | refine WE.next ?_ | refine WC.block ?_ | refine WC.skip ?_ | refine WE.out ?_ | refine WC.condT rfl ?_
    refine WE.again (s + 1) (by omega) ⟨rfl, rfl, rfl, ?_, trivial⟩ (fun _ h => h) (by omega)
    rw [hn, ← or_byte _ _ hb.1 (by omega)]
    rfl
  · obtain rfl : s = l.length := by omega
    rw [List.take_length]
    repeat first
      | (apply WL.q; exact rfl; exact rfl; exact rfl; (first | (apply EvW.move; exact rfl) | (apply EvW.assign; exact rfl) | (apply EvW.cmpF; exact rfl; exact rfl; exact rfl; omega)))
      | refine WC.seq ?_ | refine WC.region ?_ | refine WL.nil ?_ | refine WE.next ?_ | refine WC.exit ?_ | refine WE.pass ?_ | refine WE.hit ?_ | refine WC.condF rfl ?_ | refine WC.ret ?_
    refine WE.keep (xs := [.blk b #[i64 (m2).e, str (m2).s] 152]) (by repeat constructor) ?_
    refine WE.ret1 rfl rfl ?_
    exact ⟨rfl, rfl⟩
end Go.Proofs.Ytamofjpadnnppaa
namespace Go.Proofs.Ytamofjpadnnppaa
open Go.RowKit Go.BK
def PR.num (m : PR) (k : Nat) : Int × PR := (numOf (m.take 0 k).1, (m.take 0 k).2)
theorem rbyte_spec (b : Nat) (m : PR) (w : World) (S : BSet) (hS : (sepL [.blk b #[i64 (m).e, str (m).s] 152]).sat S w) (hl : m.s.length ≤ 1152921504606846976) :
    Tri Try.prog 72 #[ptr b 0] w S fun u A => u = i64 (m.num 1).1 ∧ A = [.blk b #[i64 ((m.num 1).2).e, str ((m.num 1).2).s] 152] := by
  refine Tri.enter (l := [ptr b 0]) Try.func72 rfl Try.ntmps72 rfl [(0, ptr b 0)] (subA rfl) hS ?_
  repeat first
    | (apply WL.q; exact rfl; exact rfl; exact rfl; (first | (apply EvW.move; exact rfl) | (apply EvW.assign; exact rfl)))
    | refine WC.seq ?_ | refine WC.region ?_ | refine WL.nil ?_ | refine WE.next ?_ | refine WC.skip ?_ | refine WC.exit ?_ | refine WE.pass ?_ | refine WE.hit ?_ | refine WE.miss rfl ?_ | refine WE.out ?_ | refine WC.ret ?_ | refine WE.passRet ?_ | refine WE.outRet ?_ | refine WL.wanted rfl rfl rfl ?_
  try refine WL.wanted rfl rfl rfl ?_
  apply WL.callT
  · exact rfl
  · exact rfl
  · exact fun w1 S1 hS1 hs1 ho1 => rfixed_spec b m 1 (by decide) w1 S1 hS1 hl
  · exact fun w => Try.call84 _ w
  · (focus ((repeat constructor); done))
  rintro _ _ ⟨rfl, rfl⟩
  first | refine WL.app4 ?_ | refine WL.app3 ?_ | refine WL.app2 ?_ | refine WL.app1 ?_ | refine WL.app0 ?_ | skip
  repeat first
    | (apply WL.q; exact rfl; exact rfl; exact rfl; (first | (apply EvW.move; exact rfl) | (apply EvW.assign; exact rfl)))
    | refine WC.seq ?_ | refine WC.region ?_ | refine WL.nil ?_ | refine WE.next ?_ | refine WC.skip ?_ | refine WC.exit ?_ | refine WE.pass ?_ | refine WE.hit ?_ | refine WE.miss rfl ?_ | refine WE.out ?_ | refine WC.ret ?_ | refine WE.passRet ?_ | refine WE.outRet ?_ | refine WL.wanted rfl rfl rfl ?_
  refine WE.ret1 rfl rfl ?_
  exact ⟨rfl, rfl⟩
theorem rword_spec (b : Nat) (m : PR) (w : World) (S : BSet) (hS : (sepL [.blk b #[i64 (m).e, str (m).s] 152]).sat S w) (hl : m.s.length ≤ 1152921504606846976) :
    Tri Try.prog 73 #[ptr b 0] w S fun u A => u = i64 (m.num 2).1 ∧ A = [.blk b #[i64 ((m.num 2).2).e, str ((m.num 2).2).s] 152] := by
  refine Tri.enter (l := [ptr b 0]) Try.func73 rfl Try.ntmps73 rfl [(0, ptr b 0)] (subA rfl) hS ?_
  repeat first
    | (apply WL.q; exact rfl; exact rfl; exact rfl; (first | (apply EvW.move; exact rfl) | (apply EvW.assign; exact rfl)))
    | refine WC.seq ?_ | refine WC.region ?_ | refine WL.nil ?_ | refine WE.next ?_ | refine WC.skip ?_ | refine WC.exit ?_ | refine WE.pass ?_ | refine WE.hit ?_ | refine WE.miss rfl ?_ | refine WE.out ?_ | refine WC.ret ?_ | refine WE.passRet ?_ | refine WE.outRet ?_ | refine WL.wanted rfl rfl rfl ?_
  try refine WL.wanted rfl rfl rfl ?_
  apply WL.callT
  · exact rfl
  · exact rfl
  · exact fun w1 S1 hS1 hs1 ho1 => rfixed_spec b m 2 (by decide) w1 S1 hS1 hl
  · exact fun w => Try.call84 _ w
  · (focus ((repeat constructor); done))
  rintro _ _ ⟨rfl, rfl⟩
  first | refine WL.app4 ?_ | refine WL.app3 ?_ | refine WL.app2 ?_ | refine WL.app1 ?_ | refine WL.app0 ?_ | skip
  repeat first
    | (apply WL.q; exact rfl; exact rfl; exact rfl; (first | (apply EvW.move; exact rfl) | (apply EvW.assign; exact rfl)))
    | refine WC.seq ?_ | refine WC.region ?_ | refine WL.nil ?_ | refine WE.next ?_ | refine WC.skip ?_ | refine WC.exit ?_ | refine WE.pass ?_ | refine WE.hit ?_ | refine WE.miss rfl ?_ | refine WE.out ?_ | refine WC.ret ?_ | refine WE.passRet ?_ | refine WE.outRet ?_ | refine WL.wanted rfl rfl rfl ?_
  refine WE.ret1 rfl rfl ?_
  exact ⟨rfl, rfl⟩
theorem rlong_spec (b : Nat) (m : PR) (w : World) (S : BSet) (hS : (sepL [.blk b #[i64 (m).e, str (m).s] 152]).sat S w) (hl : m.s.length ≤ 1152921504606846976) :
    Tri Try.prog 74 #[ptr b 0] w S fun u A => u = i64 (m.num 4).1 ∧ A = [.blk b #[i64 ((m.num 4).2).e, str ((m.num 4).2).s] 152] := by
  refine Tri.enter (l := [ptr b 0]) Try.func74 rfl Try.ntmps74 rfl [(0, ptr b 0)] (subA rfl) hS ?_
  repeat first
    | (apply WL.q; exact rfl; exact rfl; exact rfl; (first | (apply EvW.move; exact rfl) | (apply EvW.assign; exact rfl)))
    | refine WC.seq ?_ | refine WC.region ?_ | refine WL.nil ?_ | refine WE.next ?_ | refine WC.skip ?_ | refine WC.exit ?_ | refine WE.pass ?_ | refine WE.hit ?_ | refine WE.miss rfl ?_ | refine WE.out ?_ | refine WC.ret ?_ | refine WE.passRet ?_ | refine WE.outRet ?_ | refine WL.wanted rfl rfl rfl ?_
  try refine WL.wanted rfl rfl rfl ?_
  apply WL.callT
  · exact rfl
  · exact rfl
  · exact fun w1 S1 hS1 hs1 ho1 => rfixed_spec b m 4 (by decide) w1 S1 hS1 hl
  · exact fun w => Try.call84 _ w
  · (focus ((repeat constructor); done))
  rintro _ _ ⟨rfl, rfl⟩
  first | refine WL.app4 ?_ | refine WL.app3 ?_ | refine WL.app2 ?_ | refine WL.app1 ?_ | refine WL.app0 ?_ | skip
  repeat first
    | (apply WL.q; exact rfl; exact rfl; exact rfl; (first | (apply EvW.move; exact rfl) | (apply EvW.assign; exact rfl)))
    | refine WC.seq ?_ | refine WC.region ?_ | refine WL.nil ?_ | refine WE.next ?_ | refine WC.skip ?_ | refine WC.exit ?_ | refine WE.pass ?_ | refine WE.hit ?_ | refine WE.miss rfl ?_ | refine WE.out ?_ | refine WC.ret ?_ | refine WE.passRet ?_ | refine WE.outRet ?_ | refine WL.wanted rfl rfl rfl ?_
  refine WE.ret1 rfl rfl ?_
  exact ⟨rfl, rfl⟩
theorem bytOf_nat (x : Int) : ((bytOf x).toNat : Int) = x % 256 := by
  have h := byt_of x
  simp only [byt, Value.int.injEq, true_and] at h
  rw [h]
  simp [IntKind.wrap, IntKind.signed, IntKind.bits]
theorem fdiv_two (n : Int) (k : Nat) : n.fdiv (2 ^ k) = n / 2 ^ k := Int.fdiv_eq_ediv_of_nonneg _ (Int.le_of_lt (Int.pow_pos (by decide)))
theorem numOf_be1 (n : Int) (h0 : 0 ≤ n) (h1 : n < 256) : numOf (be 1 n) = n := by
  simp [be, List.range_succ, numOf, bytOf_nat, fdiv_two]; omega
theorem numOf_be2 (n : Int) (h0 : 0 ≤ n) (h1 : n < 65536) : numOf (be 2 n) = n := by
  simp [be, List.range_succ, numOf, bytOf_nat, fdiv_two]; omega
theorem numOf_be4 (n : Int) (h0 : 0 ≤ n) (h1 : n < 4294967296) : numOf (be 4 n) = n := by
  simp [be, List.range_succ, numOf, bytOf_nat, fdiv_two]; omega
end Go.Proofs.Ytamofjpadnnppaa
namespace Go.Proofs.Ytamofjpadnnppaa
open Go.RowKit Go.BK
theorem num_good (m : PR) (k : Nat) (he : m.e = 0) (hs : k ≤ m.s.length) : m.num k = (numOf (m.s.take k), ⟨0, m.s.drop k⟩) := by
  unfold PR.num PR.take
  rw [if_neg (by omega), if_pos he]
  simp [he]
end Go.Proofs.Ytamofjpadnnppaa
namespace Go.Proofs.Ytamofjpadnnppaa
open Go.RowKit Go.BK
theorem PR.take_e (m : PR) (a k : Nat) (he : m.e = 0 ∨ m.e = 1) : (m.take a k).2.e = 0 ∨ (m.take a k).2.e = 1 := by
  unfold PR.take
  split
  · simp only [PR.note]; split <;> simp_all
  · split <;> simp_all
theorem PR.take_s (m : PR) (a k : Nat) : (m.take a k).2.s.length ≤ m.s.length := by
  unfold PR.take
  split
  · simp [PR.note]
  · split <;> simp
end Go.Proofs.Ytamofjpadnnppaa
namespace Go.Proofs.Ytamofjpadnnppaa
open Go.RowKit Go.BK
/-- A field: the cell of its list, the list, how many and how great its numbers are to be. -/
structure Fl where
  q : Nat
  j : Nat
  v : Value
  l : List Int
  n : Int
  most : Int
instance : Inhabited Fl := ⟨⟨0, 0, .slice none 0 0, [], 0, 0⟩⟩
def flC (f : Fl) : List Value := [ptr f.q f.j, i64 f.n, i64 f.most]
def inTo (m x : Int) : Bool := decide (0 ≤ x) && decide (x ≤ m)
def Fl.ok (f : Fl) : Bool := decide ((f.l.length : Int) = f.n) && f.l.all (inTo f.most)
def Fl.Seen (f : Fl) (w : World) (S : BSet) : Prop := (∃ (cs : List Value) (U : TypeId), Sees w S (.blk f.q cs.toArray U) ∧ getL cs f.j = some f.v) ∧ Sees w S (.row 1 f.v f.l.length (f.l.map i64)) ∧ f.l.length ≤ 17592186044416
theorem Fl.Seen.down {f : Fl} {w w' : World} {S S' : BSet} (h : f.Seen w S) (k : ∀ B, Sees w S B → Sees w' S' B) : f.Seen w' S' := by
  obtain ⟨⟨cs, U, h1, h2⟩, h3, h4⟩ := h
  exact ⟨⟨cs, U, k _ h1, h2⟩, k _ h3, h4⟩
theorem all_take {α : Type} (p : α → Bool) (l : List α) (d : α) (i : Nat) (h : i < l.length) : (l.take (i + 1)).all p = ((l.take i).all p && p (l.getD i d)) := by
  rw [List.take_add_one, List.all_append, List.getD_eq_getElem?_getD, List.getElem?_eq_getElem h]
  simp
theorem all_bad {α : Type} {p : α → Bool} {l : List α} {x : α} (h : x ∈ l) (hp : p x = false) : l.all p = false := by
  rw [List.all_eq_false]
  exact ⟨x, h, by simp [hp]⟩
theorem all_got {α : Type} {p : α → Bool} {l : List α} (h : (l.take l.length).all p = true) : l.all p = true := by rwa [List.take_length] at h
theorem getD_in {α : Type} (l : List α) (d : α) (i : Nat) (h : i < l.length) : l.getD i d ∈ l := by
  rw [List.getD_eq_getElem?_getD, List.getElem?_eq_getElem h]
  exact List.getElem_mem h
theorem right_spec (fv : Value) (fs : List Fl) (w : World) (S : BSet) (hS : (sepL []).sat S w) (hf : Sees w S (.row 3 fv fs.length (fs.flatMap flC))) (ha : ∀ f ∈ fs, f.Seen w S) (hl : fs.length ≤ 4) :
    Tri Try.prog 79 #[fv] w S fun u A => u = .bool (fs.all Fl.ok) ∧ A = [] := by
  refine Tri.enter (l := [fv]) Try.func79 rfl Try.ntmps79 rfl [(0, fv)] (subA rfl) hS ?_
  repeat first
    | (apply WL.q; exact rfl; exact rfl; exact rfl; (first | (apply EvW.move; exact rfl) | (apply EvW.assign; exact rfl) | (apply EvW.lenRow; exact rfl; exact UndC.eq; assumption)))
    | refine WC.seq ?_ | refine WC.region ?_ | refine WL.nil ?_ | refine WE.next ?_ | refine WC.block ?_
  refine WC.loopK (σ := Nat) [7, 8] (fun s => [(9, i64 s)]) (fun s => []) (fun s => s ≤ fs.length ∧ (fs.take s).all Fl.ok = true) (fun s => fs.length - s) 0 (by (focus ((repeat (first | exact Pick.nil | (apply Pick.cons; exact rfl))); done))) (by (focus ((repeat (first | exact trivial | (refine ⟨rfl, ?_⟩))); done))) (fun _ h => h.keep (by repeat constructor)) ⟨Nat.zero_le _, rfl⟩ (fun s hs => ?_)
  obtain ⟨i, rfl⟩ : ∃ q, q = s := ⟨s, rfl⟩
  simp only [List.cons_append, List.nil_append] at hs ⊢
  obtain ⟨hs, hok⟩ := hs
  by_cases hlt : (i : Int) < fs.length
  · have hmem : fs.getD ((i : Nat) : Int).toNat default ∈ fs := getD_in fs default i (by omega)
    have hnext := all_take Fl.ok fs default i (by omega)
    rw [hok, Bool.true_and, show fs.getD i default = fs.getD ((i : Nat) : Int).toNat default from rfl] at hnext
    obtain ⟨⟨cs, U, hb, hc⟩, hr, hL⟩ := ha _ hmem
    repeat first
      | (apply WL.q; exact rfl; exact rfl; exact rfl; (first | (apply EvW.cmpT; exact rfl; exact rfl; exact rfl; omega) | (apply EvW.idxRow; exact rfl; exact rfl; exact UndC.eq; exact SzC.eq; assumption; omega; omega)))
      | refine WC.seq ?_ | refine WC.region ?_ | refine WL.nil ?_ | refine WE.next ?_ | refine WC.block ?_ | refine WC.skip ?_ | refine WC.condT rfl ?_
    (apply WL.q; exact rfl; exact rfl; exact rfl; (apply EvW.ldElem (xs := fs) (z := (default : Fl)) (f := flC); exact rfl; exact AggC.eq; exact SzC.eq; exact rfl; exact fun _ => rfl; assumption; omega))
    try refine WL.wanted rfl rfl rfl ?_
    (apply WL.alloc; exact rfl; exact ZvC.eq; exact rfl; intro x)
    generalize fs.getD ((i : Nat) : Int).toNat default = f at hmem hnext cs U hb hc hr hL
    by_cases hn : (f.l.length : Int) = f.n
    · repeat first
        | refine WC.seq ?_ | refine WL.nil ?_ | refine WE.next ?_ | (apply WL.store; exact rfl; exact rfl; (first | assumption | exact rfl); exact SzC.eq; (first | assumption | exact rfl); (focus ((repeat constructor); done)))
      repeat refine WC.seq ?_
      apply WC.drawQ Try.mixed
      · (focus ((repeat (first | exact Restr.nil | (apply Restr.keep; exact rfl; exact rfl) | (apply Restr.drop; exact rfl))); done))
      · exact rfl
      · decide +kernel
      · decide +kernel
      · repeat first
          | exact Draws.nil
          | (apply Draws.skip; exact rfl; exact rfl)
          | (apply Draws.q0; exact rfl
             (first | (apply EvW.nilPtr; exact rfl) | (apply EvW.fieldAddr0; exact rfl; exact FldC.eq) | (apply EvW.load; exact rfl; exact ScalC.eq; (focus ((repeat constructor); done)); exact rfl) | (apply EvW.ldSeen; exact rfl; exact ScalC.eq; assumption; (first | exact rfl | assumption)) | (apply EvW.cmpF; exact rfl; exact rfl; exact rfl; omega) | (apply EvW.lenRow; exact rfl; exact UndC.eq; assumption)))
      apply WE.writ
      · (focus ((repeat (first | exact Writ.nil | apply Writ.some | apply Writ.none)); done))
      repeat first
        | (apply WL.q; exact rfl; exact rfl; exact rfl; (first | (apply EvW.move; exact rfl) | (apply EvW.nilPtr; exact rfl) | (apply EvW.fieldAddr0; exact rfl; exact FldC.eq) | (apply EvW.load; exact rfl; exact ScalC.eq; (focus ((repeat constructor); done)); exact rfl) | (apply EvW.ldSeen; exact rfl; exact ScalC.eq; assumption; (first | exact rfl | assumption)) | (apply EvW.lenRow; exact rfl; exact UndC.eq; assumption)))
        | refine WC.seq ?_ | refine WC.region ?_ | refine WL.nil ?_ | refine WE.next ?_ | refine WC.block ?_ | refine WC.skip ?_ | refine WC.condF rfl ?_
      refine WC.loopK (σ := Nat) [4, 7, 8, 9, 24, 25] (fun s => [(26, i64 s)]) (fun s => [.blk x #[ptr f.q f.j, i64 f.n, i64 f.most] 141]) (fun s => s ≤ f.l.length ∧ (f.l.take s).all (inTo f.most) = true) (fun s => f.l.length - s) 0 (by (focus ((repeat (first | exact Pick.nil | (apply Pick.cons; exact rfl))); done))) (by (focus ((repeat (first | exact trivial | (refine ⟨rfl, ?_⟩))); done))) (fun _ h => h.keep (by repeat constructor)) ⟨Nat.zero_le _, rfl⟩ (fun s hs => ?_)
      obtain ⟨k, rfl⟩ : ∃ q, q = s := ⟨s, rfl⟩
      simp only [List.cons_append, List.nil_append] at hs ⊢
      obtain ⟨hs2, hok2⟩ := hs
      by_cases hlt2 : (k : Int) < f.l.length
      · have hx := getD_in f.l 0 k (by omega)
        have hnext2 := all_take (inTo f.most) f.l 0 k (by omega)
        rw [hok2, Bool.true_and] at hnext2
        by_cases h0 : f.l.getD ((k : Nat) : Int).toNat 0 < 0
        · have hbad : f.ok = false := by
            unfold Fl.ok
            rw [all_bad hx (by unfold inTo; rw [decide_eq_false (show ¬ 0 ≤ f.l.getD k 0 from by have h0' : f.l.getD k 0 < 0 := h0; omega), Bool.false_and]), Bool.and_false]
          repeat first
            | (apply WL.q; exact rfl; exact rfl; exact rfl; (first | (apply EvW.move; exact rfl) | (apply EvW.assign; exact rfl) | (apply EvW.cmpT; exact rfl; exact rfl; exact rfl; omega) | (apply EvW.pickT; exact rfl; exact rfl) | (apply EvW.idxRow; exact rfl; exact rfl; exact UndC.eq; exact SzC.eq; assumption; omega; omega) | (apply EvW.ldInt; exact rfl; exact ScalC.eq; assumption; omega)))
            | refine WC.seq ?_ | refine WC.region ?_ | refine WL.nil ?_ | refine WE.next ?_ | refine WC.block ?_ | refine WC.skip ?_ | refine WC.condT rfl ?_ | refine WC.ret ?_ | refine WE.passRet ?_ | refine WE.outRet ?_ | refine WL.unwanted rfl rfl rfl rfl ?_
          refine WE.bare ?_
          refine WE.ret1 rfl rfl ?_
          exact ⟨by rw [all_bad hmem hbad], rfl⟩
        · by_cases hm : f.l.getD ((k : Nat) : Int).toNat 0 ≤ f.most
          · repeat first
              | (apply WL.q; exact rfl; exact rfl; exact rfl; (first | (apply EvW.move; exact rfl) | (apply EvW.assign; exact rfl) | (apply EvW.fieldAddr0; exact rfl; exact FldC.eq) | (apply EvW.load; exact rfl; exact ScalC.eq; (focus ((repeat constructor); done)); exact rfl) | (apply EvW.cmpT; exact rfl; exact rfl; exact rfl; omega) | (apply EvW.cmpF; exact rfl; exact rfl; exact rfl; omega) | (apply EvW.arN; exact rfl; exact rfl; exact rfl; refine i64_in ?_ ?_ <;> omega) | (apply EvW.pickF; exact rfl; exact rfl) | (apply EvW.idxRow; exact rfl; exact rfl; exact UndC.eq; exact SzC.eq; assumption; omega; omega) | (apply EvW.ldInt; exact rfl; exact ScalC.eq; assumption; omega)))
              | refine WC.seq ?_ | refine WC.region ?_ | refine WL.nil ?_ | refine WE.next ?_ | refine WC.block ?_ | refine WC.skip ?_ | refine WE.out ?_ | refine WC.condT rfl ?_ | refine WC.condF rfl ?_ | refine WL.wanted rfl rfl rfl ?_
            have hgo : (f.l.take (k + 1)).all (inTo f.most) = true := by
              rw [hnext2]
              unfold inTo
              rw [decide_eq_true (show 0 ≤ f.l.getD k 0 from by have h0' : ¬ f.l.getD k 0 < 0 := h0; omega), decide_eq_true (show f.l.getD k 0 ≤ f.most from hm)]
              rfl
            exact WE.again (s := k) ((k + 1)) ⟨by omega, hgo⟩ (by (focus ((repeat (first | exact trivial | (refine ⟨rfl, ?_⟩))); done))) (fun _ h => (by (try simp only []); exact h.keep (by repeat constructor))) (by (try simp only []); omega)
          · have hbad : f.ok = false := by
              unfold Fl.ok
              rw [all_bad hx (by unfold inTo; rw [decide_eq_false (show ¬ f.l.getD k 0 ≤ f.most from hm), Bool.and_false]), Bool.and_false]
            repeat first
              | (apply WL.q; exact rfl; exact rfl; exact rfl; (first | (apply EvW.move; exact rfl) | (apply EvW.assign; exact rfl) | (apply EvW.fieldAddr0; exact rfl; exact FldC.eq) | (apply EvW.load; exact rfl; exact ScalC.eq; (focus ((repeat constructor); done)); exact rfl) | (apply EvW.cmpT; exact rfl; exact rfl; exact rfl; omega) | (apply EvW.cmpF; exact rfl; exact rfl; exact rfl; omega) | (apply EvW.pickF; exact rfl; exact rfl) | (apply EvW.idxRow; exact rfl; exact rfl; exact UndC.eq; exact SzC.eq; assumption; omega; omega) | (apply EvW.ldInt; exact rfl; exact ScalC.eq; assumption; omega)))
              | refine WC.seq ?_ | refine WC.region ?_ | refine WL.nil ?_ | refine WE.next ?_ | refine WC.block ?_ | refine WC.skip ?_ | refine WC.condT rfl ?_ | refine WC.ret ?_ | refine WE.passRet ?_ | refine WE.outRet ?_ | refine WL.wanted rfl rfl rfl ?_
            refine WE.bare ?_
            refine WE.ret1 rfl rfl ?_
            exact ⟨by rw [all_bad hmem hbad], rfl⟩
      · obtain rfl : k = f.l.length := by omega
        have hgood : f.ok = true := by
          unfold Fl.ok
          rw [decide_eq_true hn, all_got hok2]
          rfl
        repeat first
          | (apply WL.q; exact rfl; exact rfl; exact rfl; (first | (apply EvW.move; exact rfl) | (apply EvW.cmpF; exact rfl; exact rfl; exact rfl; omega) | (apply EvW.arN; exact rfl; exact rfl; exact rfl; refine i64_in ?_ ?_ <;> omega)))
          | refine WC.seq ?_ | refine WC.region ?_ | refine WL.nil ?_ | refine WE.next ?_ | refine WC.exit ?_ | refine WE.pass ?_ | refine WE.hit ?_ | refine WE.out ?_ | refine WC.condF rfl ?_
        refine WE.bare ?_
        exact WE.again (s := i) ((i + 1)) ⟨by omega, by rw [hnext, hgood]⟩ (by (focus ((repeat (first | exact trivial | (refine ⟨rfl, ?_⟩))); done))) (fun _ h => (by (try simp only []); exact h.keep (by repeat constructor))) (by (try simp only []); omega)
    · have hbad : f.ok = false := by
        unfold Fl.ok
        rw [decide_eq_false hn, Bool.false_and]
      repeat first
        | refine WC.seq ?_ | refine WL.nil ?_ | refine WE.next ?_ | (apply WL.store; exact rfl; exact rfl; (first | assumption | exact rfl); exact SzC.eq; (first | assumption | exact rfl); (focus ((repeat constructor); done)))
      repeat refine WC.seq ?_
      apply WC.drawQ Try.mixed
      · (focus ((repeat (first | exact Restr.nil | (apply Restr.keep; exact rfl; exact rfl) | (apply Restr.drop; exact rfl))); done))
      · exact rfl
      · decide +kernel
      · decide +kernel
      · repeat first
          | exact Draws.nil
          | (apply Draws.skip; exact rfl; exact rfl)
          | (apply Draws.q0; exact rfl
             (first | (apply EvW.nilPtr; exact rfl) | (apply EvW.fieldAddr0; exact rfl; exact FldC.eq) | (apply EvW.load; exact rfl; exact ScalC.eq; (focus ((repeat constructor); done)); exact rfl) | (apply EvW.ldSeen; exact rfl; exact ScalC.eq; assumption; (first | exact rfl | assumption)) | (apply EvW.cmpT; exact rfl; exact rfl; exact rfl; omega) | (apply EvW.lenRow; exact rfl; exact UndC.eq; assumption)))
      apply WE.writ
      · (focus ((repeat (first | exact Writ.nil | apply Writ.some | apply Writ.none)); done))
      repeat first
        | (apply WL.q; exact rfl; exact rfl; exact rfl; (first | (apply EvW.assign; exact rfl)))
        | refine WC.seq ?_ | refine WC.region ?_ | refine WL.nil ?_ | refine WE.next ?_ | refine WC.condT rfl ?_ | refine WC.ret ?_ | refine WE.passRet ?_ | refine WE.outRet ?_
      refine WE.bare ?_
      refine WE.ret1 rfl rfl ?_
      exact ⟨by rw [all_bad hmem hbad], rfl⟩
  · obtain rfl : i = fs.length := by omega
    repeat first
      | (apply WL.q; exact rfl; exact rfl; exact rfl; (first | (apply EvW.assign; exact rfl) | (apply EvW.cmpF; exact rfl; exact rfl; exact rfl; omega)))
      | refine WC.seq ?_ | refine WC.region ?_ | refine WL.nil ?_ | refine WE.next ?_ | refine WC.exit ?_ | refine WE.pass ?_ | refine WE.hit ?_ | refine WC.condF rfl ?_ | refine WC.ret ?_
    refine WE.ret1 rfl rfl ?_
    exact ⟨by rw [all_got hok], rfl⟩
theorem flat1_len : ∀ l : List Int, (l.flatMap (be 1)).length = l.length
  | [] => rfl
  | x :: l => by rw [List.flatMap_cons, List.length_append, be_length, flat1_len l, List.length_cons]; omega
end Go.Proofs.Ytamofjpadnnppaa
namespace Go.BK
open Go.RowKit
section
variable {P : Program} {w0 : World} {S0 : BSet} {n : Nat} {F : Fr} {A r : List HP} {dd : Option Tmp} {T : TypeId} {pos : String} {af : Array Edge} {x y : Operand} {v u : Value} {t ty e : TypeId} {cs ys : List Value} {sz len m : Nat} {g : Option (Nat × Bool)} {out : Nat × Value → List HP}
theorem NewW.append {bts : Nat} {z : Value} (hx : ev F x = some v) (hy : ev F y = some u) (hu : P.underlying t = some (.slice e)) (hz : szB P e = some sz) (hb : byB P e = some bts) (hzv : zvB P e = some z) (hzs : Nat.beq z.cells.size sz = true) (hni : notInt P ty = true)
    (hb0 : Nat.beq bts 0 = false) (ht : Take (.own e sz v len cs) A r) (ha : Adds P w0 S0 A sz u m ys) (hroom : (len + m) * bts ≤ 140737488355328)
    (ho : ∀ p w, St w0 S0 (.own e sz p.2 (len + m) (cs ++ ys) :: r) w → St w0 S0 (out p) w) : NewW P w0 S0 n F A out ⟨dd, .call ⟨.builtin .append, #[x, y], #[t, ty]⟩, T, pos, af, g⟩ (fun p => p.2) := by
  refine ⟨fun Q K a w haa hst hK => ?_⟩
  obtain ⟨hyl, hy1, hyr⟩ := ha
  obtain ⟨hy2, hy3⟩ := hyr w hst
  have hzs := Nat.eq_of_beq_eq_true hzs
  obtain ⟨inf, hinf, hby⟩ : ∃ inf, P.info? e = some inf ∧ inf.bytes = bts := by
    unfold byB at hb
    cases h : P.info? e with
    | none => simp [h] at hb
    | some i => simp [h] at hb; exact ⟨i, rfl, hb⟩
  subst hby
  have hb0' : ¬ inf.bytes = 0 := Nat.ne_of_beq_eq_false hb0
  have fin : ∀ v' w', (Builtin.append_ #[t, ty] T #[v, u]).run P w = .ok v' w' → St w0 S0 (.own e sz v' (len + m) (cs ++ ys) :: r) w' → Oper.wp P ⟨dd, .call ⟨.builtin .append, #[x, y], #[t, ty]⟩, T, pos, af, g⟩ a w K Q := by
    intro v' w' hr hs'
    unfold Oper.wp
    rw [runCallB (vals := #[v, u]) (v := v') (w' := w') (by simp [haa.eval hx, haa.eval hy]) (by simp [builtin, hr])]
    exact hK (0, v') _ (ho (0, v') _ hs')
  obtain ⟨S, h1, h2, h3⟩ := id hst
  obtain ⟨S1, S2, hun, hdis, ⟨hcl, h4⟩, h5⟩ := ht.star h1
  have grow : ∀ p sCap, v = .slice p len sCap → sCap < len + m → (∀ w', w'.heap = w.heap → (Builtin.firstCells sz len v).run P w' = .ok cs.toArray w') → Oper.wp P ⟨dd, .call ⟨.builtin .append, #[x, y], #[t, ty]⟩, T, pos, af, g⟩ a w K Q := by
    intro p sCap hv hlt hfc
    subst hv
    have hge : len + m ≤ (Question.appendCap (len + m) sCap e).cut (w.tape w.drawn (Question.appendCap (len + m) sCap e)) := by simp [Question.cut]
    generalize hnc : (Question.appendCap (len + m) sCap e).cut (w.tape w.drawn (Question.appendCap (len + m) sCap e)) = nc at hge
    obtain ⟨sp, hsp1, hsp2⟩ : ∃ sp : List Value, Builtin.zeroCells z.cells (nc - (len + m)) = sp.toArray ∧ sp.length = (nc - (len + m)) * sz :=
      ⟨(Builtin.zeroCells z.cells (nc - (len + m))).toList, by simp, by simp [Builtin.zeroCells, hzs]⟩
    have hD : St w0 S0 A w.drew := hst.drew _
    refine fin _ _ (runAppendGrow hu hz hni hinf hb0' hzv hy2 hlt hnc hroom (hfc _ rfl) (hyr _ hD).2 hsp1) ?_
    have hN := (hD.drop ht).newBlk ((cs ++ ys) ++ sp).toArray e
    refine hN.mono fun S' w' hs' => star_mono hs' (fun S'' h => blk_own h (by simp [hcl, hyl, Nat.add_mul]) hge ?_) fun _ h => h
    simp only [List.length_append, hcl, hyl, hsp2, ← Nat.add_mul]
    congr 1; omega
  rcases h4 with ⟨h4, h5', h6⟩ | ⟨b, cap, sp, h4, h5', h6, h7⟩
  · subst h4; subst h5'
    simp at hcl; subst hcl
    by_cases hm : m = 0
    · subst hm
      simp at hyl; subst hyl
      exact fin _ w (runAppendNil hu hz hni hy2 hy3) ⟨S, ⟨S1, S2, hun, hdis, ⟨by simp, .inl ⟨rfl, rfl, h6⟩⟩, h5⟩, h2, h3⟩
    · exact grow none 0 rfl (by omega) (fun w' _ => by simp [Builtin.firstCells])
  · by_cases hfit : len + m ≤ cap
    · subst h4
      obtain ⟨hS1, lo, hi, hh, hfr⟩ := h7
      have hle : len * sz + ys.length ≤ (cs ++ sp).length := by rw [h6, hyl, ← Nat.add_mul]; exact Nat.mul_le_mul_right _ hfit
      have hstr := runStoreOne (P := P) (o := len * sz) hh (by simpa using hfr) hy1 hle
      have hov : over (cs ++ sp) (len * sz) ys = (cs ++ ys) ++ sp.drop ys.length := by
        unfold over
        rw [← hcl]
        simp
      rw [hov] at hstr
      refine fin _ _ (runAppendIn hu hz hni hy2 hfit hy3 hstr) ?_
      have hA : St w0 S0 (.blk b (cs ++ sp).toArray e :: r) w := ⟨S, ⟨S1, S2, hun, hdis, ⟨hS1, lo, hi, hh, hfr⟩, h5⟩, h2, h3⟩
      have hupd : St w0 S0 (.blk b ((cs ++ ys) ++ sp.drop ys.length).toArray e :: r) { w with heap := w.heap.setIfInBounds b (.cells ((cs ++ ys) ++ sp.drop ys.length).toArray e (lo, hi)) } := by
        refine hA.write .head (fun lo' hi' h8 _ => ?_) (by rw [← hov]; exact over_length hle)
        rw [hh] at h8
        injection h8 with h8
        cases h8
        rfl
      exact hupd.mono fun S' w' hs' => star_mono hs' (fun S'' h => blk_own h (by simp [hcl, hyl, Nat.add_mul]) hfit (by rw [← hov, over_length hle, h6])) fun _ h => h
    · exact grow (some ⟨b, 0, none⟩) cap h4 (by omega) (fun w' hw' => by
        subst h4
        obtain ⟨hS1, lo, hi, hh, hfr⟩ := h7
        refine runFirst hcl fun j q hj => ?_
        have h6 := List.getElem?_eq_some_iff.1 hj
        simp [World.cell?, hw', hh, List.getElem?_append, h6.1, h6.2])
/-- An own slice is one cell. -/
theorem EvW.slOwn {o : Oper} {x : Value} (v : Value) (ht : Take (.own e sz v len cs) A r) (kk : v.cells = [v].toArray → v.oneCell' = true → EvW P w0 S0 n F A o x) : EvW P w0 S0 n F A o x :=
  ⟨fun Q K a w ha hst hK => by
    obtain ⟨S, h⟩ := hst.take ht
    have := sl_cells (own_sl h)
    exact (kk this.1 (by simpa using this.2)).go Q K a w ha hst hK⟩
theorem EffW.slOwn {o : Oper} {x : Value} {A' : List HP} (v : Value) (ht : Take (.own e sz v len cs) A r) (kk : v.cells = [v].toArray → v.oneCell' = true → EffW P w0 S0 n F A A' o x) : EffW P w0 S0 n F A A' o x :=
  ⟨fun Q K a w ha hst hK => by
    obtain ⟨S, h⟩ := hst.take ht
    have := sl_cells (own_sl h)
    exact (kk this.1 (by simpa using this.2)).go Q K a w ha hst hK⟩
theorem Sees.row_one {w : World} {S : BSet} {v : Value} {cs : List Value} {sz len : Nat} (h : Sees w S (.row sz v len cs)) : v.oneCell' = true := by
  rcases h.row_shape with ⟨p, cap, rfl, _⟩ | ⟨b, off, cap, rfl, _⟩ <;> rfl
/-- A store of a slice of the call's own. -/
theorem EffW.storeSl {A' : List HP} {bl o : Nat} (hx : ev F x = some (ptr bl o)) (hy : ev F y = some v) (ht : Take (.own e sz v len cs) A r) (hz : szB P t = some 1) (hu : UpdC bl o [v] A A') : EffW P w0 S0 n F A A' ⟨none, .store t x y, T, pos, af, g⟩ undef := by
  refine ⟨fun Q K a w ha hst hK => ?_⟩
  obtain ⟨S, h1, h2, h3⟩ := id hst
  obtain ⟨S1, S2, hun, hdis, h4, h5⟩ := ht.star h1
  have hv : v.oneCell' = true := by
    rcases own_shape h4 with ⟨rfl, _, _⟩ | ⟨b, cap, rfl, _⟩ <;> rfl
  exact (EffW.store (P := P) (w0 := w0) (S0 := S0) (n := n) (F := F) (T := T) (pos := pos) (af := af) (g := g) (t := t) hx hy (cells_one hv) (by simpa using hz) (by simp [hv]) hu).go Q K a w ha hst hK
end
end Go.BK
namespace Go.Proofs.Ytamofjpadnnppaa
open Go.RowKit Go.BK
/-- The numbers of a part of a text. -/
def tpart (l : List UInt8) (o n : Nat) : List Int := ((l.drop o).take n).map fun c => (c.toNat : Int)
def upto (i j n : Nat) : Nat := if j < i then n else 0
theorem tpart_length (l : List UInt8) (o n : Nat) (h : o + n ≤ l.length) : (tpart l o n).length = n := by simp [tpart]; omega
theorem tpart_succ (l : List UInt8) (o k : Nat) (h : o + k < l.length) : tpart l o (k + 1) = tpart l o k ++ [((l.getD (o + k) 0).toNat : Int)] := by
  unfold tpart
  rw [List.take_add_one, List.getElem?_drop, List.getElem?_eq_getElem h, List.getD_eq_getElem?_getD, List.getElem?_eq_getElem h]
  simp
theorem num1_drop (l : List UInt8) (o : Nat) (h : o < l.length) : (PR.mk 0 (l.drop o)).num 1 = (((l.getD o 0).toNat : Int), PR.mk 0 (l.drop (o + 1))) := by
  have e : l.drop o = l[o] :: l.drop (o + 1) := List.drop_eq_getElem_cons h
  unfold PR.num PR.take
  rw [List.getD_eq_getElem?_getD, List.getElem?_eq_getElem h]
  rw [if_neg (by simp; omega), if_pos rfl]
  generalize l.drop (o + 1) = r at e ⊢
  dsimp only
  rw [List.drop_zero, e]
  simp [numOf]
theorem num1_nil : (PR.mk 0 []).num 1 = (0, PR.mk 1 []) := rfl
def good4 (l : List UInt8) (kind : Int) (n0 n1 n2 n3 : Nat) (m0 m1 m2 m3 : Int) : Prop := l.length = 1 + n0 + n1 + n2 + n3 ∧ ((l.getD 0 0).toNat : Int) = kind ∧ (tpart l (1) n0).all (inTo m0) = true ∧ (tpart l (1 + n0) n1).all (inTo m1) = true ∧ (tpart l (1 + n0 + n1) n2).all (inTo m2) = true ∧ (tpart l (1 + n0 + n1 + n2) n3).all (inTo m3) = true
theorem read4_spec (l : List UInt8) (kind : Int) (fv : Value) (q : Nat) (U : TypeId) (n0 n1 n2 n3 : Nat) (m0 m1 m2 m3 : Int) (w : World) (S : BSet) (hS : (sepL [.blk q #[.slice none 0 0, .slice none 0 0, .slice none 0 0, .slice none 0 0] U]).sat S w) (hl : l.length ≤ 140737488355328) (hk : 1 ≤ kind) (hf : Sees w S (.row 3 fv 4 (([⟨q, 0, .slice none 0 0, [], n0, m0⟩, ⟨q, 1, .slice none 0 0, [], n1, m1⟩, ⟨q, 2, .slice none 0 0, [], n2, m2⟩, ⟨q, 3, .slice none 0 0, [], n3, m3⟩] : List Fl).flatMap flC))) (hb0 : n0 ≤ 17592186044416) (hb1 : n1 ≤ 17592186044416) (hb2 : n2 ≤ 17592186044416) (hb3 : n3 ≤ 17592186044416) :
    Tri Try.prog 59 #[str l, i64 kind, fv] w S fun u A => (u = i64 3 ∧ A = [] ∧ ¬ good4 l kind n0 n1 n2 n3 m0 m1 m2 m3) ∨ (u = i64 0 ∧ good4 l kind n0 n1 n2 n3 m0 m1 m2 m3 ∧ ∃ a b y d : Value, A = [.blk q #[a, b, y, d] U, .own 3 1 (a) (tpart l (1) n0).length ((tpart l (1) n0).map i64), .own 3 1 (b) (tpart l (1 + n0) n1).length ((tpart l (1 + n0) n1).map i64), .own 3 1 (y) (tpart l (1 + n0 + n1) n2).length ((tpart l (1 + n0 + n1) n2).map i64), .own 3 1 (d) (tpart l (1 + n0 + n1 + n2) n3).length ((tpart l (1 + n0 + n1 + n2) n3).map i64)]) := by
  refine Tri.enter (l := [str l, i64 kind, fv]) Try.func59 rfl Try.ntmps59 rfl [(0, str l), (1, i64 kind), (2, fv)] (subA rfl) hS ?_
  obtain ⟨fs, hfs⟩ : ∃ fs : List Fl, fs = [⟨q, 0, .slice none 0 0, [], n0, m0⟩, ⟨q, 1, .slice none 0 0, [], n1, m1⟩, ⟨q, 2, .slice none 0 0, [], n2, m2⟩, ⟨q, 3, .slice none 0 0, [], n3, m3⟩] := ⟨_, rfl⟩
  rw [← hfs] at hf
  have hfl : fs.length = 4 := by rw [hfs]; rfl
  repeat first
    | (apply WL.q; exact rfl; exact rfl; exact rfl; (first | (apply EvW.move; exact rfl) | (apply EvW.assign; exact rfl)))
    | refine WC.seq ?_ | refine WC.region ?_ | refine WL.nil ?_ | refine WE.next ?_
  try refine WL.wanted rfl rfl rfl ?_
  apply WL.callT
  · exact rfl
  · exact rfl
  · exact fun w1 S1 hS1 hs1 ho1 => read_spec l w1 S1 hS1
  · exact fun w => Try.call71 _ w
  · (focus ((repeat constructor); done))
  rintro _ _ ⟨r, rfl, rfl⟩
  first | refine WL.app4 ?_ | refine WL.app3 ?_ | refine WL.app2 ?_ | refine WL.app1 ?_ | refine WL.app0 ?_ | skip
  repeat first
    | (apply WL.q; exact rfl; exact rfl; exact rfl; (first | (apply EvW.move; exact rfl) | (apply EvW.assign; exact rfl)))
    | refine WC.seq ?_ | refine WC.region ?_ | refine WL.nil ?_ | refine WE.next ?_
  rcases Nat.eq_zero_or_pos l.length with h0 | h0
  · obtain rfl : l = [] := List.eq_nil_of_length_eq_zero h0
    try refine WL.wanted rfl rfl rfl ?_
    apply WL.callA ([.blk r #[i64 (PR.mk 0 []).e, str (PR.mk 0 []).s] 152])
    · exact rfl
    · exact rfl
    · exact fun w => Try.call72 _ w
    · (focus ((repeat constructor); done))
    · exact fun w1 S1 hS1 hs1 ho1 => rbyte_spec r (PR.mk 0 []) w1 S1 hS1 (by simp)
    rintro _ _ ⟨rfl, rfl⟩
    first | refine WL.app4 ?_ | refine WL.app3 ?_ | refine WL.app2 ?_ | refine WL.app1 ?_ | refine WL.app0 ?_ | skip
    rw [num1_nil]
    dsimp only
    have hne : ¬ (0 : Int) = kind := by omega
    repeat first
      | (apply WL.q; exact rfl; exact rfl; exact rfl; (first | (apply EvW.move; exact rfl) | (apply EvW.assign; exact rfl) | (apply EvW.cmpT; exact rfl; exact rfl; exact rfl; omega)))
      | refine WC.seq ?_ | refine WC.region ?_ | refine WL.nil ?_ | refine WE.next ?_ | refine WC.condT rfl ?_ | refine WC.ret ?_ | refine WE.passRet ?_
    refine WE.bare ?_
    refine WE.ret1 rfl rfl ?_
    exact .inl ⟨rfl, rfl, fun h => by have := h.1; simp at this; omega⟩
  try refine WL.wanted rfl rfl rfl ?_
  apply WL.callA ([.blk r #[i64 (PR.mk 0 l).e, str (PR.mk 0 l).s] 152])
  · exact rfl
  · exact rfl
  · exact fun w => Try.call72 _ w
  · (focus ((repeat constructor); done))
  · exact fun w1 S1 hS1 hs1 ho1 => rbyte_spec r (PR.mk 0 l) w1 S1 hS1 (by simp; omega)
  rintro _ _ ⟨rfl, rfl⟩
  first | refine WL.app4 ?_ | refine WL.app3 ?_ | refine WL.app2 ?_ | refine WL.app1 ?_ | refine WL.app0 ?_ | skip
  rw [show (PR.mk 0 l).num 1 = (((l.getD 0 0).toNat : Int), PR.mk 0 (l.drop 1)) from num1_drop l 0 h0]
  dsimp only
  by_cases hkd : ((l.getD 0 0).toNat : Int) = kind
  rotate_left
  · repeat first
      | (apply WL.q; exact rfl; exact rfl; exact rfl; (first | (apply EvW.move; exact rfl) | (apply EvW.assign; exact rfl) | (apply EvW.cmpT; exact rfl; exact rfl; exact rfl; omega)))
      | refine WC.seq ?_ | refine WC.region ?_ | refine WL.nil ?_ | refine WE.next ?_ | refine WC.condT rfl ?_ | refine WC.ret ?_ | refine WE.passRet ?_
    refine WE.bare ?_
    refine WE.ret1 rfl rfl ?_
    exact .inl ⟨rfl, rfl, fun h => hkd h.2.1⟩
  repeat first
    | (apply WL.q; exact rfl; exact rfl; exact rfl; (first | (apply EvW.move; exact rfl) | (apply EvW.cmpF; exact rfl; exact rfl; exact rfl; omega) | (apply EvW.lenRow; exact rfl; exact UndC.eq; assumption)))
    | refine WC.seq ?_ | refine WC.region ?_ | refine WL.nil ?_ | refine WE.next ?_ | refine WC.block ?_ | refine WC.skip ?_ | refine WC.condF rfl ?_
  refine WC.ownNil 3 1 ?_
  refine WC.ownNil 3 1 ?_
  refine WC.ownNil 3 1 ?_
  refine WC.ownNil 3 1 ?_
  refine WC.loopK (σ := Nat × Value × Value × Value × Value) [2, 7, 16, 17] (fun s => [(18, i64 s.1)]) (fun s => [.blk r #[i64 (PR.mk 0 (l.drop (1 + upto s.1 0 n0 + upto s.1 1 n1 + upto s.1 2 n2 + upto s.1 3 n3))).e, str (PR.mk 0 (l.drop (1 + upto s.1 0 n0 + upto s.1 1 n1 + upto s.1 2 n2 + upto s.1 3 n3))).s] 152, .blk q #[s.2.1, s.2.2.1, s.2.2.2.1, s.2.2.2.2] U, .own 3 1 (s.2.1) (tpart l (1) (upto s.1 0 n0)).length ((tpart l (1) (upto s.1 0 n0)).map i64), .own 3 1 (s.2.2.1) (tpart l (1 + n0) (upto s.1 1 n1)).length ((tpart l (1 + n0) (upto s.1 1 n1)).map i64), .own 3 1 (s.2.2.2.1) (tpart l (1 + n0 + n1) (upto s.1 2 n2)).length ((tpart l (1 + n0 + n1) (upto s.1 2 n2)).map i64), .own 3 1 (s.2.2.2.2) (tpart l (1 + n0 + n1 + n2) (upto s.1 3 n3)).length ((tpart l (1 + n0 + n1 + n2) (upto s.1 3 n3)).map i64)]) (fun s => s.1 ≤ 4 ∧ 1 + upto s.1 0 n0 + upto s.1 1 n1 + upto s.1 2 n2 + upto s.1 3 n3 ≤ l.length) (fun s => 4 - s.1) (0, .slice none 0 0, .slice none 0 0, .slice none 0 0, .slice none 0 0) (by (focus ((repeat (first | exact Pick.nil | (apply Pick.cons; exact rfl))); done))) (by (focus ((repeat (first | exact trivial | (refine ⟨rfl, ?_⟩))); done))) (fun _ h => h.keep (by repeat constructor)) ⟨by simp only []; omega, by simp only [upto]; simp; omega⟩ (fun s hs => ?_)
  obtain ⟨i, a, b, y, d⟩ := s
  simp only [List.cons_append, List.nil_append] at hs ⊢
  obtain ⟨hs, hol⟩ := hs
  by_cases hlt : (i : Int) < 4
  · have hi : i = 0 ∨ i = 1 ∨ i = 2 ∨ i = 3 := by omega
    rcases hi with rfl | rfl | rfl | rfl
    · rw [show upto 0 0 n0 = 0 from rfl, show upto 0 1 n1 = 0 from rfl, show upto 0 2 n2 = 0 from rfl, show upto 0 3 n3 = 0 from rfl] at hol
      rw [show upto 0 0 n0 = 0 from rfl, show upto 0 1 n1 = 0 from rfl, show upto 0 2 n2 = 0 from rfl, show upto 0 3 n3 = 0 from rfl]
      rw [show 1 + 0 + 0 + 0 + 0 = 1 from by omega]
      have hol : 1 ≤ l.length := by omega
      repeat first
        | (apply WL.q; exact rfl; exact rfl; exact rfl; (first | (apply EvW.cmpT; exact rfl; exact rfl; exact rfl; omega) | (apply EvW.idxRow; exact rfl; exact rfl; exact UndC.eq; exact SzC.eq; assumption; omega; omega)))
        | refine WC.seq ?_ | refine WC.region ?_ | refine WL.nil ?_ | refine WE.next ?_ | refine WC.block ?_ | refine WC.skip ?_ | refine WC.condT rfl ?_
      (apply WL.q; exact rfl; exact rfl; exact rfl; (apply EvW.ldElem (xs := fs) (z := (default : Fl)) (f := flC); exact rfl; exact AggC.eq; exact SzC.eq; exact rfl; exact fun _ => rfl; assumption; omega))
      try refine WL.wanted rfl rfl rfl ?_
      (apply WL.alloc; exact rfl; exact ZvC.eq; exact rfl; intro x)
      rw [show fs.getD (((0 : Nat) : Int)).toNat default = ⟨q, 0, .slice none 0 0, [], n0, m0⟩ from by rw [hfs]; rfl]
      repeat first
        | (apply WL.q; exact rfl; exact rfl; exact rfl; (first | (apply EvW.move; exact rfl) | (apply EvW.fieldAddr0; exact rfl; exact FldC.eq) | (apply EvW.load; exact rfl; exact ScalC.eq; (focus ((repeat constructor); done)); exact rfl)))
        | refine WC.seq ?_ | refine WC.region ?_ | refine WL.nil ?_ | refine WE.next ?_ | refine WC.block ?_ | (apply WL.store; exact rfl; exact rfl; (first | assumption | exact rfl); exact SzC.eq; (first | assumption | exact rfl); (focus ((repeat constructor); done)))
      refine WC.loopK (σ := Nat × Value) [2, 7, 9, 16, 17, 18, 23] (fun s => [(24, i64 s.1)]) (fun s => [.blk r #[i64 (PR.mk 0 (l.drop (1 + s.1))).e, str (PR.mk 0 (l.drop (1 + s.1))).s] 152, .blk q #[s.2, b, y, d] U, .own 3 1 (s.2) (tpart l (1) s.1).length ((tpart l (1) s.1).map i64), .own 3 1 (b) (tpart l (1 + n0) 0).length ((tpart l (1 + n0) 0).map i64), .own 3 1 (y) (tpart l (1 + n0 + n1) 0).length ((tpart l (1 + n0 + n1) 0).map i64), .own 3 1 (d) (tpart l (1 + n0 + n1 + n2) 0).length ((tpart l (1 + n0 + n1 + n2) 0).map i64), .blk x #[ptr q 0, i64 n0, i64 m0] 141]) (fun s => s.1 ≤ n0 ∧ 1 + s.1 ≤ l.length) (fun s => n0 - s.1) (0, a) (by (focus ((repeat (first | exact Pick.nil | (apply Pick.cons; exact rfl))); done))) (by (focus ((repeat (first | exact trivial | (refine ⟨rfl, ?_⟩))); done))) (fun _ h => h.keep (by repeat constructor)) ⟨Nat.zero_le _, hol⟩ (fun s hs => ?_)
      obtain ⟨k, v⟩ := s
      simp only [List.cons_append, List.nil_append] at hs ⊢
      obtain ⟨hs2, hol2⟩ := hs
      by_cases hlt2 : (k : Int) < n0
      · by_cases hz : ((l.drop (1 + k)).length : Int) = 0
        · repeat first
            | (apply WL.q; exact rfl; exact rfl; exact rfl; (first | (apply EvW.move; exact rfl) | (apply EvW.cmpT; exact rfl; exact rfl; exact rfl; omega)))
            | refine WC.seq ?_ | refine WC.region ?_ | refine WL.nil ?_ | refine WE.next ?_ | refine WC.block ?_ | refine WC.skip ?_ | refine WC.condT rfl ?_
          try refine WL.wanted rfl rfl rfl ?_
          apply WL.callA ([.blk r #[i64 (PR.mk 0 (l.drop (1 + k))).e, str (PR.mk 0 (l.drop (1 + k))).s] 152])
          · exact rfl
          · exact rfl
          · exact fun w => Try.call77 _ w
          · (focus ((repeat constructor); done))
          · exact fun w1 S1 hS1 hs1 ho1 => left_spec r (PR.mk 0 (l.drop (1 + k))) w1 S1 hS1
          rintro _ _ ⟨rfl, rfl⟩
          first | refine WL.app4 ?_ | refine WL.app3 ?_ | refine WL.app2 ?_ | refine WL.app1 ?_ | refine WL.app0 ?_ | skip
          dsimp only
          repeat first
            | (apply WL.q; exact rfl; exact rfl; exact rfl; (first | (apply EvW.assign; exact rfl) | (apply EvW.cmpT; exact rfl; exact rfl; exact rfl; omega)))
            | refine WC.seq ?_ | refine WC.region ?_ | refine WL.nil ?_ | refine WE.next ?_ | refine WC.condT rfl ?_ | refine WC.ret ?_ | refine WE.passRet ?_ | refine WE.outRet ?_
          refine WE.bare ?_
          refine WE.ret1 rfl rfl ?_
          refine .inl ⟨rfl, rfl, fun h => ?_⟩
          have h1 := h.1
          rw [List.length_drop] at hz
          omega
        · have hlt3 : 1 + k < l.length := by rw [List.length_drop] at hz; omega
          have hpl := tpart_length l (1) k (by omega)
          repeat first
            | (apply WL.q; exact rfl; exact rfl; exact rfl; (first | (apply EvW.move; exact rfl) | (apply EvW.cmpT; exact rfl; exact rfl; exact rfl; omega)))
            | refine WC.seq ?_ | refine WC.region ?_ | refine WL.nil ?_ | refine WE.next ?_ | refine WC.block ?_ | refine WC.skip ?_ | refine WC.condT rfl ?_
          try refine WL.wanted rfl rfl rfl ?_
          apply WL.callA ([.blk r #[i64 (PR.mk 0 (l.drop (1 + k))).e, str (PR.mk 0 (l.drop (1 + k))).s] 152])
          · exact rfl
          · exact rfl
          · exact fun w => Try.call77 _ w
          · (focus ((repeat constructor); done))
          · exact fun w1 S1 hS1 hs1 ho1 => left_spec r (PR.mk 0 (l.drop (1 + k))) w1 S1 hS1
          rintro _ _ ⟨rfl, rfl⟩
          first | refine WL.app4 ?_ | refine WL.app3 ?_ | refine WL.app2 ?_ | refine WL.app1 ?_ | refine WL.app0 ?_ | skip
          dsimp only
          repeat first
            | (apply WL.q; exact rfl; exact rfl; exact rfl; (first | (apply EvW.cmpF; exact rfl; exact rfl; exact rfl; omega)))
            | refine WL.nil ?_ | refine WE.next ?_ | refine WC.skip ?_ | refine WC.condF rfl ?_
          repeat refine WC.seq ?_
          refine WC.keep (xs := [.blk x #[ptr q 0, i64 n0, i64 m0] 141, .blk r #[i64 (PR.mk 0 (l.drop (1 + k))).e, str (PR.mk 0 (l.drop (1 + k))).s] 152, .own 3 1 (v) (tpart l (1) k).length ((tpart l (1) k).map i64), .blk q #[v, b, y, d] U, .own 3 1 (b) (tpart l (1 + n0) 0).length ((tpart l (1 + n0) 0).map i64), .own 3 1 (y) (tpart l (1 + n0 + n1) 0).length ((tpart l (1 + n0 + n1) 0).map i64), .own 3 1 (d) (tpart l (1 + n0 + n1 + n2) 0).length ((tpart l (1 + n0 + n1 + n2) 0).map i64)]) (by repeat constructor) ?_
          apply WC.par _ (fun c : Ch => [.blk x #[ptr q 0, i64 n0, i64 m0] 141, .blk r #[i64 (PR.mk 0 (l.drop (1 + k))).e, str (PR.mk 0 (l.drop (1 + k))).s] 152, .blk r #[i64 (PR.mk 0 (l.drop (1 + k + 1))).e, str (PR.mk 0 (l.drop (1 + k + 1))).s] 152, .own 3 1 (v) (tpart l (1) k).length ((tpart l (1) k).map i64), .blk (c 8).1 #[i64 ((l.getD (1 + k) 0).toNat : Int)] 3, .own 3 1 ((c 9).2) ((tpart l (1) k).length + 1) ((tpart l (1) k).map i64 ++ [i64 ((l.getD (1 + k) 0).toNat : Int)]), .blk q #[v, b, y, d] U, .blk q #[(c 9).2, b, y, d] U, .own 3 1 (b) (tpart l (1 + n0) 0).length ((tpart l (1 + n0) 0).map i64), .own 3 1 (y) (tpart l (1 + n0 + n1) 0).length ((tpart l (1 + n0 + n1) 0).map i64), .own 3 1 (d) (tpart l (1 + n0 + n1 + n2) 0).length ((tpart l (1 + n0 + n1 + n2) 0).map i64)]) [none, none, some 7, none, some 8, some 9, none, some 11, none, none, none] [none, some 7, none, some 9, some 9, none, some 11, none, none, none, none] [(8, fun x => .slice (some ⟨x.1, 0, none⟩) 1 1), (9, fun x => x.2)] Try.mixed
          · (focus ((repeat (first | exact Restr.nil | (apply Restr.keep; exact rfl; exact rfl) | (apply Restr.drop; exact rfl))); done))
          · intro c; exact (by repeat constructor)
          · exact rfl
          · decide +kernel
          · decide +kernel
          · intro c
            (apply Par.quiet _ [true, false, false, false, false, false, true, false, true, true, true]; exact rfl; decide +kernel; exact rfl; intro R; refine ⟨_, (by repeat constructor), ?_⟩;
                 (first | (apply EvW.fieldAddr0; exact rfl; exact FldC.eq)))
            (apply Par.quiet _ [true, false, false, false, false, false, true, false, true, true, true]; exact rfl; decide +kernel; exact rfl; intro R; refine ⟨_, (by repeat constructor), ?_⟩;
                 (first | (apply EvW.load; exact rfl; exact ScalC.eq; (focus ((repeat constructor); done)); exact rfl)))
            (apply Par.quiet _ [true, false, false, true, false, false, true, false, true, true, true]; exact rfl; decide +kernel; exact rfl; intro R; refine ⟨_, (by repeat constructor), ?_⟩;
                 (first | (apply EvW.fieldAddr0; exact rfl; exact FldC.eq)))
            (apply Par.quiet _ [true, false, false, true, false, false, true, false, true, true, true]; exact rfl; decide +kernel; exact rfl; intro R; refine ⟨_, (by repeat constructor), ?_⟩;
                 (first | (apply EvW.load; exact rfl; exact ScalC.eq; (focus ((repeat constructor); done)); exact rfl)))
            (apply Par.quiet _ [true, false, false, true, false, false, true, false, true, true, true]; exact rfl; decide +kernel; exact rfl; intro R; refine ⟨_, (by repeat constructor), ?_⟩;
                 (first | (apply EvW.nilPtr; exact rfl)))
            (apply Par.quiet _ [true, false, false, true, false, false, true, false, true, true, true]; exact rfl; decide +kernel; exact rfl; intro R; refine ⟨_, (by repeat constructor), ?_⟩;
                 (first | (apply EvW.load; exact rfl; exact ScalC.eq; (focus ((repeat constructor); done)); exact rfl)))
            (apply Par.quiet _ [true, true, false, true, false, false, true, false, true, true, true]; exact rfl; decide +kernel; exact rfl; intro R; refine ⟨_, (by repeat constructor), ?_⟩;
                 (first | (apply EvW.move; exact rfl)))
            apply Par.eff _ [false, true, false, false, false, false, false, false, false, false, false] [false, false, true, false, false, false, false, false, false, false, false] [true, false, false, true, false, false, true, false, true, true, true]
            · exact rfl
            · exact rfl
            · decide +kernel
            · intro R
              refine ⟨_, _, _, (by repeat constructor), (by repeat constructor), (by repeat constructor), ?_⟩
              apply EffW.callT
              · exact rfl
              · exact fun w1 S1 hS1 hs1 ho1 => (by have h := rbyte_spec r (PR.mk 0 (l.drop (1 + k))) w1 S1 hS1 (by simp; omega); rw [num1_drop l _ hlt3] at h; exact h)
              · exact fun w => Try.call72 _ w
              · (focus ((repeat constructor); done))
              · exact fun _ _ h => h
              · exact fun _ h => TakeT.st (by (focus ((repeat (first | exact TakeT.tail | apply TakeT.cons | exact Take.head | apply Take.tail | apply TakeT.drop)); done))) h
            (apply Par.new _ [false, false, false, false, false, false, false, false, false, false, false] [false, false, false, false, true, false, false, false, false, false, false] [true, false, true, true, false, false, true, false, true, true, true]; exact rfl; exact rfl; decide +kernel; intro R; refine ⟨_, _, _, (by repeat constructor), (by repeat constructor), (fun x => (by repeat constructor)), ?_⟩; (apply NewW.buildSlice; exact UndC.eq; exact SzC.eq; exact ZvC.eq; exact rfl; exact rfl; exact rfl; (focus ((repeat (first | exact Flat.nil | (apply Flat.one; (first | exact rfl | assumption)) | (apply Flat.cons; exact rfl; exact rfl))); done)); exact rfl; exact rfl; exact fun _ => rfl))
            apply Par.new _ [false, false, false, true, true, false, false, false, false, false, false] [false, false, false, false, false, true, false, false, false, false, false] [true, false, true, false, false, false, true, false, true, true, true]
            · exact rfl
            · exact rfl
            · decide +kernel
            · intro R
              refine ⟨_, _, _, (by repeat constructor), (by repeat constructor), (fun x => (by repeat constructor)), ?_⟩
              (apply NewW.append; exact rfl; exact rfl; exact UndC.eq; exact SzC.eq; exact ByC.eq; exact ZvC.eq; exact rfl; (first | exact notInt_sl UndC.eq | exact notInt_st UndC.eq); exact rfl; (focus ((repeat constructor); done)))
              · exact adds_blk (by repeat constructor) rfl rfl
              · (omega)
              · exact fun _ _ h => TakeT.st (by (focus ((repeat (first | exact TakeT.tail | apply TakeT.cons | exact Take.head | apply Take.tail | apply TakeT.drop)); done))) h
            (apply Par.quiet _ [true, false, true, false, false, true, true, false, true, true, true]; exact rfl; decide +kernel; exact rfl; intro R; refine ⟨_, (by repeat constructor), ?_⟩;
                 (first | (apply EvW.nilPtr; exact rfl)))
            apply Par.eff _ [false, false, false, false, false, false, true, false, false, false, false] [false, false, false, false, false, false, false, true, false, false, false] [true, false, true, false, false, true, false, false, true, true, true]
            · exact rfl
            · exact rfl
            · decide +kernel
            · intro R
              refine ⟨_, _, _, (by repeat constructor), (by repeat constructor), (by repeat constructor), ?_⟩
              (apply EffW.storeSl; exact rfl; exact rfl; (focus ((repeat constructor); done)); exact SzC.eq; (focus ((repeat constructor); done)))
            exact Par.nil
          · repeat (first | exact AllN.nil | (apply AllN.cons; (intro c x; (repeat (first | exact IndA.nil | (apply IndA.skip; decide +kernel) | apply IndA.same))))) 
          · repeat (first | exact AllN.nil | (apply AllN.cons; (intro c x; (repeat (first | exact IndT.nil | (apply IndT.skip; decide +kernel) | apply IndT.same))))) 
          · exact fun _ => rfl
          intro c
          refine ⟨_, (by repeat constructor), ?_⟩
          apply WE.writ
          · (focus ((repeat (first | exact Writ.nil | apply Writ.some | apply Writ.none)); done))
          generalize (c 8).1 = b8
          generalize (c 9).2 = v2
          dsimp only
          rw [show (tpart l (1) k).map i64 ++ [i64 ((l.getD (1 + k) 0).toNat : Int)] = (tpart l (1) (k + 1)).map i64 from by rw [tpart_succ l _ k hlt3]; simp, show (tpart l (1) k).length + 1 = (tpart l (1) (k + 1)).length from by rw [tpart_succ l _ k hlt3]; simp]
          repeat first
            | (apply WL.q; exact rfl; exact rfl; exact rfl; (first | (apply EvW.move; exact rfl) | (apply EvW.arN; exact rfl; exact rfl; exact rfl; refine i64_in ?_ ?_ <;> omega)))
            | refine WC.region ?_ | refine WL.nil ?_ | refine WE.next ?_ | refine WE.out ?_
          exact WE.again (s := (k, v)) ((k + 1, v2)) ⟨by simp only []; omega, by simp only []; omega⟩ (by (focus ((repeat (first | exact trivial | (refine ⟨rfl, ?_⟩))); done))) (fun _ h => (by (try simp only []); (try rw [← Nat.add_assoc]); exact h.keep (by repeat constructor))) (by (try simp only []); omega)
      · obtain rfl : n0 = k := by omega
        repeat first
          | (apply WL.q; exact rfl; exact rfl; exact rfl; (first | (apply EvW.move; exact rfl) | (apply EvW.cmpF; exact rfl; exact rfl; exact rfl; omega) | (apply EvW.arN; exact rfl; exact rfl; exact rfl; refine i64_in ?_ ?_ <;> omega)))
          | refine WC.seq ?_ | refine WC.region ?_ | refine WL.nil ?_ | refine WE.next ?_ | refine WC.exit ?_ | refine WE.pass ?_ | refine WE.hit ?_ | refine WE.out ?_ | refine WC.condF rfl ?_
        exact WE.again (s := (0, a, b, y, d)) ((1, v, b, y, d)) ⟨by simp only []; omega, by simp only [upto]; simp; omega⟩ (by (focus ((repeat (first | exact trivial | (refine ⟨rfl, ?_⟩))); done))) (fun _ h => (by (try simp only []); rw [show upto 1 0 n0 = n0 from rfl, show upto 1 1 n1 = 0 from rfl, show upto 1 2 n2 = 0 from rfl, show upto 1 3 n3 = 0 from rfl, show 1 + n0 + 0 + 0 + 0 = 1 + n0 from by omega]; exact h.keep (by repeat constructor))) (by (try simp only []); omega)
    · rw [show upto 1 0 n0 = n0 from rfl, show upto 1 1 n1 = 0 from rfl, show upto 1 2 n2 = 0 from rfl, show upto 1 3 n3 = 0 from rfl] at hol
      rw [show upto 1 0 n0 = n0 from rfl, show upto 1 1 n1 = 0 from rfl, show upto 1 2 n2 = 0 from rfl, show upto 1 3 n3 = 0 from rfl]
      rw [show 1 + n0 + 0 + 0 + 0 = 1 + n0 from by omega]
      have hol : 1 + n0 ≤ l.length := by omega
      repeat first
        | (apply WL.q; exact rfl; exact rfl; exact rfl; (first | (apply EvW.cmpT; exact rfl; exact rfl; exact rfl; omega) | (apply EvW.idxRow; exact rfl; exact rfl; exact UndC.eq; exact SzC.eq; assumption; omega; omega)))
        | refine WC.seq ?_ | refine WC.region ?_ | refine WL.nil ?_ | refine WE.next ?_ | refine WC.block ?_ | refine WC.skip ?_ | refine WC.condT rfl ?_
      (apply WL.q; exact rfl; exact rfl; exact rfl; (apply EvW.ldElem (xs := fs) (z := (default : Fl)) (f := flC); exact rfl; exact AggC.eq; exact SzC.eq; exact rfl; exact fun _ => rfl; assumption; omega))
      try refine WL.wanted rfl rfl rfl ?_
      (apply WL.alloc; exact rfl; exact ZvC.eq; exact rfl; intro x)
      rw [show fs.getD (((1 : Nat) : Int)).toNat default = ⟨q, 1, .slice none 0 0, [], n1, m1⟩ from by rw [hfs]; rfl]
      repeat first
        | (apply WL.q; exact rfl; exact rfl; exact rfl; (first | (apply EvW.move; exact rfl) | (apply EvW.fieldAddr0; exact rfl; exact FldC.eq) | (apply EvW.load; exact rfl; exact ScalC.eq; (focus ((repeat constructor); done)); exact rfl)))
        | refine WC.seq ?_ | refine WC.region ?_ | refine WL.nil ?_ | refine WE.next ?_ | refine WC.block ?_ | (apply WL.store; exact rfl; exact rfl; (first | assumption | exact rfl); exact SzC.eq; (first | assumption | exact rfl); (focus ((repeat constructor); done)))
      refine WC.loopK (σ := Nat × Value) [2, 7, 9, 16, 17, 18, 23] (fun s => [(24, i64 s.1)]) (fun s => [.blk r #[i64 (PR.mk 0 (l.drop (1 + n0 + s.1))).e, str (PR.mk 0 (l.drop (1 + n0 + s.1))).s] 152, .blk q #[a, s.2, y, d] U, .own 3 1 (s.2) (tpart l (1 + n0) s.1).length ((tpart l (1 + n0) s.1).map i64), .own 3 1 (a) (tpart l (1) n0).length ((tpart l (1) n0).map i64), .own 3 1 (y) (tpart l (1 + n0 + n1) 0).length ((tpart l (1 + n0 + n1) 0).map i64), .own 3 1 (d) (tpart l (1 + n0 + n1 + n2) 0).length ((tpart l (1 + n0 + n1 + n2) 0).map i64), .blk x #[ptr q 1, i64 n1, i64 m1] 141]) (fun s => s.1 ≤ n1 ∧ 1 + n0 + s.1 ≤ l.length) (fun s => n1 - s.1) (0, b) (by (focus ((repeat (first | exact Pick.nil | (apply Pick.cons; exact rfl))); done))) (by (focus ((repeat (first | exact trivial | (refine ⟨rfl, ?_⟩))); done))) (fun _ h => h.keep (by repeat constructor)) ⟨Nat.zero_le _, hol⟩ (fun s hs => ?_)
      obtain ⟨k, v⟩ := s
      simp only [List.cons_append, List.nil_append] at hs ⊢
      obtain ⟨hs2, hol2⟩ := hs
      by_cases hlt2 : (k : Int) < n1
      · by_cases hz : ((l.drop (1 + n0 + k)).length : Int) = 0
        · repeat first
            | (apply WL.q; exact rfl; exact rfl; exact rfl; (first | (apply EvW.move; exact rfl) | (apply EvW.cmpT; exact rfl; exact rfl; exact rfl; omega)))
            | refine WC.seq ?_ | refine WC.region ?_ | refine WL.nil ?_ | refine WE.next ?_ | refine WC.block ?_ | refine WC.skip ?_ | refine WC.condT rfl ?_
          try refine WL.wanted rfl rfl rfl ?_
          apply WL.callA ([.blk r #[i64 (PR.mk 0 (l.drop (1 + n0 + k))).e, str (PR.mk 0 (l.drop (1 + n0 + k))).s] 152])
          · exact rfl
          · exact rfl
          · exact fun w => Try.call77 _ w
          · (focus ((repeat constructor); done))
          · exact fun w1 S1 hS1 hs1 ho1 => left_spec r (PR.mk 0 (l.drop (1 + n0 + k))) w1 S1 hS1
          rintro _ _ ⟨rfl, rfl⟩
          first | refine WL.app4 ?_ | refine WL.app3 ?_ | refine WL.app2 ?_ | refine WL.app1 ?_ | refine WL.app0 ?_ | skip
          dsimp only
          repeat first
            | (apply WL.q; exact rfl; exact rfl; exact rfl; (first | (apply EvW.assign; exact rfl) | (apply EvW.cmpT; exact rfl; exact rfl; exact rfl; omega)))
            | refine WC.seq ?_ | refine WC.region ?_ | refine WL.nil ?_ | refine WE.next ?_ | refine WC.condT rfl ?_ | refine WC.ret ?_ | refine WE.passRet ?_ | refine WE.outRet ?_
          refine WE.bare ?_
          refine WE.ret1 rfl rfl ?_
          refine .inl ⟨rfl, rfl, fun h => ?_⟩
          have h1 := h.1
          rw [List.length_drop] at hz
          omega
        · have hlt3 : 1 + n0 + k < l.length := by rw [List.length_drop] at hz; omega
          have hpl := tpart_length l (1 + n0) k (by omega)
          repeat first
            | (apply WL.q; exact rfl; exact rfl; exact rfl; (first | (apply EvW.move; exact rfl) | (apply EvW.cmpT; exact rfl; exact rfl; exact rfl; omega)))
            | refine WC.seq ?_ | refine WC.region ?_ | refine WL.nil ?_ | refine WE.next ?_ | refine WC.block ?_ | refine WC.skip ?_ | refine WC.condT rfl ?_
          try refine WL.wanted rfl rfl rfl ?_
          apply WL.callA ([.blk r #[i64 (PR.mk 0 (l.drop (1 + n0 + k))).e, str (PR.mk 0 (l.drop (1 + n0 + k))).s] 152])
          · exact rfl
          · exact rfl
          · exact fun w => Try.call77 _ w
          · (focus ((repeat constructor); done))
          · exact fun w1 S1 hS1 hs1 ho1 => left_spec r (PR.mk 0 (l.drop (1 + n0 + k))) w1 S1 hS1
          rintro _ _ ⟨rfl, rfl⟩
          first | refine WL.app4 ?_ | refine WL.app3 ?_ | refine WL.app2 ?_ | refine WL.app1 ?_ | refine WL.app0 ?_ | skip
          dsimp only
          repeat first
            | (apply WL.q; exact rfl; exact rfl; exact rfl; (first | (apply EvW.cmpF; exact rfl; exact rfl; exact rfl; omega)))
            | refine WL.nil ?_ | refine WE.next ?_ | refine WC.skip ?_ | refine WC.condF rfl ?_
          repeat refine WC.seq ?_
          refine WC.keep (xs := [.blk x #[ptr q 1, i64 n1, i64 m1] 141, .blk r #[i64 (PR.mk 0 (l.drop (1 + n0 + k))).e, str (PR.mk 0 (l.drop (1 + n0 + k))).s] 152, .own 3 1 (v) (tpart l (1 + n0) k).length ((tpart l (1 + n0) k).map i64), .blk q #[a, v, y, d] U, .own 3 1 (a) (tpart l (1) n0).length ((tpart l (1) n0).map i64), .own 3 1 (y) (tpart l (1 + n0 + n1) 0).length ((tpart l (1 + n0 + n1) 0).map i64), .own 3 1 (d) (tpart l (1 + n0 + n1 + n2) 0).length ((tpart l (1 + n0 + n1 + n2) 0).map i64)]) (by repeat constructor) ?_
          apply WC.par _ (fun c : Ch => [.blk x #[ptr q 1, i64 n1, i64 m1] 141, .blk r #[i64 (PR.mk 0 (l.drop (1 + n0 + k))).e, str (PR.mk 0 (l.drop (1 + n0 + k))).s] 152, .blk r #[i64 (PR.mk 0 (l.drop (1 + n0 + k + 1))).e, str (PR.mk 0 (l.drop (1 + n0 + k + 1))).s] 152, .own 3 1 (v) (tpart l (1 + n0) k).length ((tpart l (1 + n0) k).map i64), .blk (c 8).1 #[i64 ((l.getD (1 + n0 + k) 0).toNat : Int)] 3, .own 3 1 ((c 9).2) ((tpart l (1 + n0) k).length + 1) ((tpart l (1 + n0) k).map i64 ++ [i64 ((l.getD (1 + n0 + k) 0).toNat : Int)]), .blk q #[a, v, y, d] U, .blk q #[a, (c 9).2, y, d] U, .own 3 1 (a) (tpart l (1) n0).length ((tpart l (1) n0).map i64), .own 3 1 (y) (tpart l (1 + n0 + n1) 0).length ((tpart l (1 + n0 + n1) 0).map i64), .own 3 1 (d) (tpart l (1 + n0 + n1 + n2) 0).length ((tpart l (1 + n0 + n1 + n2) 0).map i64)]) [none, none, some 7, none, some 8, some 9, none, some 11, none, none, none] [none, some 7, none, some 9, some 9, none, some 11, none, none, none, none] [(8, fun x => .slice (some ⟨x.1, 0, none⟩) 1 1), (9, fun x => x.2)] Try.mixed
          · (focus ((repeat (first | exact Restr.nil | (apply Restr.keep; exact rfl; exact rfl) | (apply Restr.drop; exact rfl))); done))
          · intro c; exact (by repeat constructor)
          · exact rfl
          · decide +kernel
          · decide +kernel
          · intro c
            (apply Par.quiet _ [true, false, false, false, false, false, true, false, true, true, true]; exact rfl; decide +kernel; exact rfl; intro R; refine ⟨_, (by repeat constructor), ?_⟩;
                 (first | (apply EvW.fieldAddr0; exact rfl; exact FldC.eq)))
            (apply Par.quiet _ [true, false, false, false, false, false, true, false, true, true, true]; exact rfl; decide +kernel; exact rfl; intro R; refine ⟨_, (by repeat constructor), ?_⟩;
                 (first | (apply EvW.load; exact rfl; exact ScalC.eq; (focus ((repeat constructor); done)); exact rfl)))
            (apply Par.quiet _ [true, false, false, true, false, false, true, false, true, true, true]; exact rfl; decide +kernel; exact rfl; intro R; refine ⟨_, (by repeat constructor), ?_⟩;
                 (first | (apply EvW.fieldAddr0; exact rfl; exact FldC.eq)))
            (apply Par.quiet _ [true, false, false, true, false, false, true, false, true, true, true]; exact rfl; decide +kernel; exact rfl; intro R; refine ⟨_, (by repeat constructor), ?_⟩;
                 (first | (apply EvW.load; exact rfl; exact ScalC.eq; (focus ((repeat constructor); done)); exact rfl)))
            (apply Par.quiet _ [true, false, false, true, false, false, true, false, true, true, true]; exact rfl; decide +kernel; exact rfl; intro R; refine ⟨_, (by repeat constructor), ?_⟩;
                 (first | (apply EvW.nilPtr; exact rfl)))
            (apply Par.quiet _ [true, false, false, true, false, false, true, false, true, true, true]; exact rfl; decide +kernel; exact rfl; intro R; refine ⟨_, (by repeat constructor), ?_⟩;
                 (first | (apply EvW.load; exact rfl; exact ScalC.eq; (focus ((repeat constructor); done)); exact rfl)))
            (apply Par.quiet _ [true, true, false, true, false, false, true, false, true, true, true]; exact rfl; decide +kernel; exact rfl; intro R; refine ⟨_, (by repeat constructor), ?_⟩;
                 (first | (apply EvW.move; exact rfl)))
            apply Par.eff _ [false, true, false, false, false, false, false, false, false, false, false] [false, false, true, false, false, false, false, false, false, false, false] [true, false, false, true, false, false, true, false, true, true, true]
            · exact rfl
            · exact rfl
            · decide +kernel
            · intro R
              refine ⟨_, _, _, (by repeat constructor), (by repeat constructor), (by repeat constructor), ?_⟩
              apply EffW.callT
              · exact rfl
              · exact fun w1 S1 hS1 hs1 ho1 => (by have h := rbyte_spec r (PR.mk 0 (l.drop (1 + n0 + k))) w1 S1 hS1 (by simp; omega); rw [num1_drop l _ hlt3] at h; exact h)
              · exact fun w => Try.call72 _ w
              · (focus ((repeat constructor); done))
              · exact fun _ _ h => h
              · exact fun _ h => TakeT.st (by (focus ((repeat (first | exact TakeT.tail | apply TakeT.cons | exact Take.head | apply Take.tail | apply TakeT.drop)); done))) h
            (apply Par.new _ [false, false, false, false, false, false, false, false, false, false, false] [false, false, false, false, true, false, false, false, false, false, false] [true, false, true, true, false, false, true, false, true, true, true]; exact rfl; exact rfl; decide +kernel; intro R; refine ⟨_, _, _, (by repeat constructor), (by repeat constructor), (fun x => (by repeat constructor)), ?_⟩; (apply NewW.buildSlice; exact UndC.eq; exact SzC.eq; exact ZvC.eq; exact rfl; exact rfl; exact rfl; (focus ((repeat (first | exact Flat.nil | (apply Flat.one; (first | exact rfl | assumption)) | (apply Flat.cons; exact rfl; exact rfl))); done)); exact rfl; exact rfl; exact fun _ => rfl))
            apply Par.new _ [false, false, false, true, true, false, false, false, false, false, false] [false, false, false, false, false, true, false, false, false, false, false] [true, false, true, false, false, false, true, false, true, true, true]
            · exact rfl
            · exact rfl
            · decide +kernel
            · intro R
              refine ⟨_, _, _, (by repeat constructor), (by repeat constructor), (fun x => (by repeat constructor)), ?_⟩
              (apply NewW.append; exact rfl; exact rfl; exact UndC.eq; exact SzC.eq; exact ByC.eq; exact ZvC.eq; exact rfl; (first | exact notInt_sl UndC.eq | exact notInt_st UndC.eq); exact rfl; (focus ((repeat constructor); done)))
              · exact adds_blk (by repeat constructor) rfl rfl
              · (omega)
              · exact fun _ _ h => TakeT.st (by (focus ((repeat (first | exact TakeT.tail | apply TakeT.cons | exact Take.head | apply Take.tail | apply TakeT.drop)); done))) h
            (apply Par.quiet _ [true, false, true, false, false, true, true, false, true, true, true]; exact rfl; decide +kernel; exact rfl; intro R; refine ⟨_, (by repeat constructor), ?_⟩;
                 (first | (apply EvW.nilPtr; exact rfl)))
            apply Par.eff _ [false, false, false, false, false, false, true, false, false, false, false] [false, false, false, false, false, false, false, true, false, false, false] [true, false, true, false, false, true, false, false, true, true, true]
            · exact rfl
            · exact rfl
            · decide +kernel
            · intro R
              refine ⟨_, _, _, (by repeat constructor), (by repeat constructor), (by repeat constructor), ?_⟩
              (apply EffW.storeSl; exact rfl; exact rfl; (focus ((repeat constructor); done)); exact SzC.eq; (focus ((repeat constructor); done)))
            exact Par.nil
          · repeat (first | exact AllN.nil | (apply AllN.cons; (intro c x; (repeat (first | exact IndA.nil | (apply IndA.skip; decide +kernel) | apply IndA.same))))) 
          · repeat (first | exact AllN.nil | (apply AllN.cons; (intro c x; (repeat (first | exact IndT.nil | (apply IndT.skip; decide +kernel) | apply IndT.same))))) 
          · exact fun _ => rfl
          intro c
          refine ⟨_, (by repeat constructor), ?_⟩
          apply WE.writ
          · (focus ((repeat (first | exact Writ.nil | apply Writ.some | apply Writ.none)); done))
          generalize (c 8).1 = b8
          generalize (c 9).2 = v2
          dsimp only
          rw [show (tpart l (1 + n0) k).map i64 ++ [i64 ((l.getD (1 + n0 + k) 0).toNat : Int)] = (tpart l (1 + n0) (k + 1)).map i64 from by rw [tpart_succ l _ k hlt3]; simp, show (tpart l (1 + n0) k).length + 1 = (tpart l (1 + n0) (k + 1)).length from by rw [tpart_succ l _ k hlt3]; simp]
          repeat first
            | (apply WL.q; exact rfl; exact rfl; exact rfl; (first | (apply EvW.move; exact rfl) | (apply EvW.arN; exact rfl; exact rfl; exact rfl; refine i64_in ?_ ?_ <;> omega)))
            | refine WC.region ?_ | refine WL.nil ?_ | refine WE.next ?_ | refine WE.out ?_
          exact WE.again (s := (k, v)) ((k + 1, v2)) ⟨by simp only []; omega, by simp only []; omega⟩ (by (focus ((repeat (first | exact trivial | (refine ⟨rfl, ?_⟩))); done))) (fun _ h => (by (try simp only []); (try rw [← Nat.add_assoc]); exact h.keep (by repeat constructor))) (by (try simp only []); omega)
      · obtain rfl : n1 = k := by omega
        repeat first
          | (apply WL.q; exact rfl; exact rfl; exact rfl; (first | (apply EvW.move; exact rfl) | (apply EvW.cmpF; exact rfl; exact rfl; exact rfl; omega) | (apply EvW.arN; exact rfl; exact rfl; exact rfl; refine i64_in ?_ ?_ <;> omega)))
          | refine WC.seq ?_ | refine WC.region ?_ | refine WL.nil ?_ | refine WE.next ?_ | refine WC.exit ?_ | refine WE.pass ?_ | refine WE.hit ?_ | refine WE.out ?_ | refine WC.condF rfl ?_
        exact WE.again (s := (1, a, b, y, d)) ((2, a, v, y, d)) ⟨by simp only []; omega, by simp only [upto]; simp; omega⟩ (by (focus ((repeat (first | exact trivial | (refine ⟨rfl, ?_⟩))); done))) (fun _ h => (by (try simp only []); rw [show upto 2 0 n0 = n0 from rfl, show upto 2 1 n1 = n1 from rfl, show upto 2 2 n2 = 0 from rfl, show upto 2 3 n3 = 0 from rfl, show 1 + n0 + n1 + 0 + 0 = 1 + n0 + n1 from by omega]; exact h.keep (by repeat constructor))) (by (try simp only []); omega)
    · rw [show upto 2 0 n0 = n0 from rfl, show upto 2 1 n1 = n1 from rfl, show upto 2 2 n2 = 0 from rfl, show upto 2 3 n3 = 0 from rfl] at hol
      rw [show upto 2 0 n0 = n0 from rfl, show upto 2 1 n1 = n1 from rfl, show upto 2 2 n2 = 0 from rfl, show upto 2 3 n3 = 0 from rfl]
      rw [show 1 + n0 + n1 + 0 + 0 = 1 + n0 + n1 from by omega]
      have hol : 1 + n0 + n1 ≤ l.length := by omega
      repeat first
        | (apply WL.q; exact rfl; exact rfl; exact rfl; (first | (apply EvW.cmpT; exact rfl; exact rfl; exact rfl; omega) | (apply EvW.idxRow; exact rfl; exact rfl; exact UndC.eq; exact SzC.eq; assumption; omega; omega)))
        | refine WC.seq ?_ | refine WC.region ?_ | refine WL.nil ?_ | refine WE.next ?_ | refine WC.block ?_ | refine WC.skip ?_ | refine WC.condT rfl ?_
      (apply WL.q; exact rfl; exact rfl; exact rfl; (apply EvW.ldElem (xs := fs) (z := (default : Fl)) (f := flC); exact rfl; exact AggC.eq; exact SzC.eq; exact rfl; exact fun _ => rfl; assumption; omega))
      try refine WL.wanted rfl rfl rfl ?_
      (apply WL.alloc; exact rfl; exact ZvC.eq; exact rfl; intro x)
      rw [show fs.getD (((2 : Nat) : Int)).toNat default = ⟨q, 2, .slice none 0 0, [], n2, m2⟩ from by rw [hfs]; rfl]
      repeat first
        | (apply WL.q; exact rfl; exact rfl; exact rfl; (first | (apply EvW.move; exact rfl) | (apply EvW.fieldAddr0; exact rfl; exact FldC.eq) | (apply EvW.load; exact rfl; exact ScalC.eq; (focus ((repeat constructor); done)); exact rfl)))
        | refine WC.seq ?_ | refine WC.region ?_ | refine WL.nil ?_ | refine WE.next ?_ | refine WC.block ?_ | (apply WL.store; exact rfl; exact rfl; (first | assumption | exact rfl); exact SzC.eq; (first | assumption | exact rfl); (focus ((repeat constructor); done)))
      refine WC.loopK (σ := Nat × Value) [2, 7, 9, 16, 17, 18, 23] (fun s => [(24, i64 s.1)]) (fun s => [.blk r #[i64 (PR.mk 0 (l.drop (1 + n0 + n1 + s.1))).e, str (PR.mk 0 (l.drop (1 + n0 + n1 + s.1))).s] 152, .blk q #[a, b, s.2, d] U, .own 3 1 (s.2) (tpart l (1 + n0 + n1) s.1).length ((tpart l (1 + n0 + n1) s.1).map i64), .own 3 1 (a) (tpart l (1) n0).length ((tpart l (1) n0).map i64), .own 3 1 (b) (tpart l (1 + n0) n1).length ((tpart l (1 + n0) n1).map i64), .own 3 1 (d) (tpart l (1 + n0 + n1 + n2) 0).length ((tpart l (1 + n0 + n1 + n2) 0).map i64), .blk x #[ptr q 2, i64 n2, i64 m2] 141]) (fun s => s.1 ≤ n2 ∧ 1 + n0 + n1 + s.1 ≤ l.length) (fun s => n2 - s.1) (0, y) (by (focus ((repeat (first | exact Pick.nil | (apply Pick.cons; exact rfl))); done))) (by (focus ((repeat (first | exact trivial | (refine ⟨rfl, ?_⟩))); done))) (fun _ h => h.keep (by repeat constructor)) ⟨Nat.zero_le _, hol⟩ (fun s hs => ?_)
      obtain ⟨k, v⟩ := s
      simp only [List.cons_append, List.nil_append] at hs ⊢
      obtain ⟨hs2, hol2⟩ := hs
      by_cases hlt2 : (k : Int) < n2
      · by_cases hz : ((l.drop (1 + n0 + n1 + k)).length : Int) = 0
        · repeat first
            | (apply WL.q; exact rfl; exact rfl; exact rfl; (first | (apply EvW.move; exact rfl) | (apply EvW.cmpT; exact rfl; exact rfl; exact rfl; omega)))
            | refine WC.seq ?_ | refine WC.region ?_ | refine WL.nil ?_ | refine WE.next ?_ | refine WC.block ?_ | refine WC.skip ?_ | refine WC.condT rfl ?_
          try refine WL.wanted rfl rfl rfl ?_
          apply WL.callA ([.blk r #[i64 (PR.mk 0 (l.drop (1 + n0 + n1 + k))).e, str (PR.mk 0 (l.drop (1 + n0 + n1 + k))).s] 152])
          · exact rfl
          · exact rfl
          · exact fun w => Try.call77 _ w
          · (focus ((repeat constructor); done))
          · exact fun w1 S1 hS1 hs1 ho1 => left_spec r (PR.mk 0 (l.drop (1 + n0 + n1 + k))) w1 S1 hS1
          rintro _ _ ⟨rfl, rfl⟩
          first | refine WL.app4 ?_ | refine WL.app3 ?_ | refine WL.app2 ?_ | refine WL.app1 ?_ | refine WL.app0 ?_ | skip
          dsimp only
          repeat first
            | (apply WL.q; exact rfl; exact rfl; exact rfl; (first | (apply EvW.assign; exact rfl) | (apply EvW.cmpT; exact rfl; exact rfl; exact rfl; omega)))
            | refine WC.seq ?_ | refine WC.region ?_ | refine WL.nil ?_ | refine WE.next ?_ | refine WC.condT rfl ?_ | refine WC.ret ?_ | refine WE.passRet ?_ | refine WE.outRet ?_
          refine WE.bare ?_
          refine WE.ret1 rfl rfl ?_
          refine .inl ⟨rfl, rfl, fun h => ?_⟩
          have h1 := h.1
          rw [List.length_drop] at hz
          omega
        · have hlt3 : 1 + n0 + n1 + k < l.length := by rw [List.length_drop] at hz; omega
          have hpl := tpart_length l (1 + n0 + n1) k (by omega)
          repeat first
            | (apply WL.q; exact rfl; exact rfl; exact rfl; (first | (apply EvW.move; exact rfl) | (apply EvW.cmpT; exact rfl; exact rfl; exact rfl; omega)))
            | refine WC.seq ?_ | refine WC.region ?_ | refine WL.nil ?_ | refine WE.next ?_ | refine WC.block ?_ | refine WC.skip ?_ | refine WC.condT rfl ?_
          try refine WL.wanted rfl rfl rfl ?_
          apply WL.callA ([.blk r #[i64 (PR.mk 0 (l.drop (1 + n0 + n1 + k))).e, str (PR.mk 0 (l.drop (1 + n0 + n1 + k))).s] 152])
          · exact rfl
          · exact rfl
          · exact fun w => Try.call77 _ w
          · (focus ((repeat constructor); done))
          · exact fun w1 S1 hS1 hs1 ho1 => left_spec r (PR.mk 0 (l.drop (1 + n0 + n1 + k))) w1 S1 hS1
          rintro _ _ ⟨rfl, rfl⟩
          first | refine WL.app4 ?_ | refine WL.app3 ?_ | refine WL.app2 ?_ | refine WL.app1 ?_ | refine WL.app0 ?_ | skip
          dsimp only
          repeat first
            | (apply WL.q; exact rfl; exact rfl; exact rfl; (first | (apply EvW.cmpF; exact rfl; exact rfl; exact rfl; omega)))
            | refine WL.nil ?_ | refine WE.next ?_ | refine WC.skip ?_ | refine WC.condF rfl ?_
          repeat refine WC.seq ?_
          refine WC.keep (xs := [.blk x #[ptr q 2, i64 n2, i64 m2] 141, .blk r #[i64 (PR.mk 0 (l.drop (1 + n0 + n1 + k))).e, str (PR.mk 0 (l.drop (1 + n0 + n1 + k))).s] 152, .own 3 1 (v) (tpart l (1 + n0 + n1) k).length ((tpart l (1 + n0 + n1) k).map i64), .blk q #[a, b, v, d] U, .own 3 1 (a) (tpart l (1) n0).length ((tpart l (1) n0).map i64), .own 3 1 (b) (tpart l (1 + n0) n1).length ((tpart l (1 + n0) n1).map i64), .own 3 1 (d) (tpart l (1 + n0 + n1 + n2) 0).length ((tpart l (1 + n0 + n1 + n2) 0).map i64)]) (by repeat constructor) ?_
          apply WC.par _ (fun c : Ch => [.blk x #[ptr q 2, i64 n2, i64 m2] 141, .blk r #[i64 (PR.mk 0 (l.drop (1 + n0 + n1 + k))).e, str (PR.mk 0 (l.drop (1 + n0 + n1 + k))).s] 152, .blk r #[i64 (PR.mk 0 (l.drop (1 + n0 + n1 + k + 1))).e, str (PR.mk 0 (l.drop (1 + n0 + n1 + k + 1))).s] 152, .own 3 1 (v) (tpart l (1 + n0 + n1) k).length ((tpart l (1 + n0 + n1) k).map i64), .blk (c 8).1 #[i64 ((l.getD (1 + n0 + n1 + k) 0).toNat : Int)] 3, .own 3 1 ((c 9).2) ((tpart l (1 + n0 + n1) k).length + 1) ((tpart l (1 + n0 + n1) k).map i64 ++ [i64 ((l.getD (1 + n0 + n1 + k) 0).toNat : Int)]), .blk q #[a, b, v, d] U, .blk q #[a, b, (c 9).2, d] U, .own 3 1 (a) (tpart l (1) n0).length ((tpart l (1) n0).map i64), .own 3 1 (b) (tpart l (1 + n0) n1).length ((tpart l (1 + n0) n1).map i64), .own 3 1 (d) (tpart l (1 + n0 + n1 + n2) 0).length ((tpart l (1 + n0 + n1 + n2) 0).map i64)]) [none, none, some 7, none, some 8, some 9, none, some 11, none, none, none] [none, some 7, none, some 9, some 9, none, some 11, none, none, none, none] [(8, fun x => .slice (some ⟨x.1, 0, none⟩) 1 1), (9, fun x => x.2)] Try.mixed
          · (focus ((repeat (first | exact Restr.nil | (apply Restr.keep; exact rfl; exact rfl) | (apply Restr.drop; exact rfl))); done))
          · intro c; exact (by repeat constructor)
          · exact rfl
          · decide +kernel
          · decide +kernel
          · intro c
            (apply Par.quiet _ [true, false, false, false, false, false, true, false, true, true, true]; exact rfl; decide +kernel; exact rfl; intro R; refine ⟨_, (by repeat constructor), ?_⟩;
                 (first | (apply EvW.fieldAddr0; exact rfl; exact FldC.eq)))
            (apply Par.quiet _ [true, false, false, false, false, false, true, false, true, true, true]; exact rfl; decide +kernel; exact rfl; intro R; refine ⟨_, (by repeat constructor), ?_⟩;
                 (first | (apply EvW.load; exact rfl; exact ScalC.eq; (focus ((repeat constructor); done)); exact rfl)))
            (apply Par.quiet _ [true, false, false, true, false, false, true, false, true, true, true]; exact rfl; decide +kernel; exact rfl; intro R; refine ⟨_, (by repeat constructor), ?_⟩;
                 (first | (apply EvW.fieldAddr0; exact rfl; exact FldC.eq)))
            (apply Par.quiet _ [true, false, false, true, false, false, true, false, true, true, true]; exact rfl; decide +kernel; exact rfl; intro R; refine ⟨_, (by repeat constructor), ?_⟩;
                 (first | (apply EvW.load; exact rfl; exact ScalC.eq; (focus ((repeat constructor); done)); exact rfl)))
            (apply Par.quiet _ [true, false, false, true, false, false, true, false, true, true, true]; exact rfl; decide +kernel; exact rfl; intro R; refine ⟨_, (by repeat constructor), ?_⟩;
                 (first | (apply EvW.nilPtr; exact rfl)))
            (apply Par.quiet _ [true, false, false, true, false, false, true, false, true, true, true]; exact rfl; decide +kernel; exact rfl; intro R; refine ⟨_, (by repeat constructor), ?_⟩;
                 (first | (apply EvW.load; exact rfl; exact ScalC.eq; (focus ((repeat constructor); done)); exact rfl)))
            (apply Par.quiet _ [true, true, false, true, false, false, true, false, true, true, true]; exact rfl; decide +kernel; exact rfl; intro R; refine ⟨_, (by repeat constructor), ?_⟩;
                 (first | (apply EvW.move; exact rfl)))
            apply Par.eff _ [false, true, false, false, false, false, false, false, false, false, false] [false, false, true, false, false, false, false, false, false, false, false] [true, false, false, true, false, false, true, false, true, true, true]
            · exact rfl
            · exact rfl
            · decide +kernel
            · intro R
              refine ⟨_, _, _, (by repeat constructor), (by repeat constructor), (by repeat constructor), ?_⟩
              apply EffW.callT
              · exact rfl
              · exact fun w1 S1 hS1 hs1 ho1 => (by have h := rbyte_spec r (PR.mk 0 (l.drop (1 + n0 + n1 + k))) w1 S1 hS1 (by simp; omega); rw [num1_drop l _ hlt3] at h; exact h)
              · exact fun w => Try.call72 _ w
              · (focus ((repeat constructor); done))
              · exact fun _ _ h => h
              · exact fun _ h => TakeT.st (by (focus ((repeat (first | exact TakeT.tail | apply TakeT.cons | exact Take.head | apply Take.tail | apply TakeT.drop)); done))) h
            (apply Par.new _ [false, false, false, false, false, false, false, false, false, false, false] [false, false, false, false, true, false, false, false, false, false, false] [true, false, true, true, false, false, true, false, true, true, true]; exact rfl; exact rfl; decide +kernel; intro R; refine ⟨_, _, _, (by repeat constructor), (by repeat constructor), (fun x => (by repeat constructor)), ?_⟩; (apply NewW.buildSlice; exact UndC.eq; exact SzC.eq; exact ZvC.eq; exact rfl; exact rfl; exact rfl; (focus ((repeat (first | exact Flat.nil | (apply Flat.one; (first | exact rfl | assumption)) | (apply Flat.cons; exact rfl; exact rfl))); done)); exact rfl; exact rfl; exact fun _ => rfl))
            apply Par.new _ [false, false, false, true, true, false, false, false, false, false, false] [false, false, false, false, false, true, false, false, false, false, false] [true, false, true, false, false, false, true, false, true, true, true]
            · exact rfl
            · exact rfl
            · decide +kernel
            · intro R
              refine ⟨_, _, _, (by repeat constructor), (by repeat constructor), (fun x => (by repeat constructor)), ?_⟩
              (apply NewW.append; exact rfl; exact rfl; exact UndC.eq; exact SzC.eq; exact ByC.eq; exact ZvC.eq; exact rfl; (first | exact notInt_sl UndC.eq | exact notInt_st UndC.eq); exact rfl; (focus ((repeat constructor); done)))
              · exact adds_blk (by repeat constructor) rfl rfl
              · (omega)
              · exact fun _ _ h => TakeT.st (by (focus ((repeat (first | exact TakeT.tail | apply TakeT.cons | exact Take.head | apply Take.tail | apply TakeT.drop)); done))) h
            (apply Par.quiet _ [true, false, true, false, false, true, true, false, true, true, true]; exact rfl; decide +kernel; exact rfl; intro R; refine ⟨_, (by repeat constructor), ?_⟩;
                 (first | (apply EvW.nilPtr; exact rfl)))
            apply Par.eff _ [false, false, false, false, false, false, true, false, false, false, false] [false, false, false, false, false, false, false, true, false, false, false] [true, false, true, false, false, true, false, false, true, true, true]
            · exact rfl
            · exact rfl
            · decide +kernel
            · intro R
              refine ⟨_, _, _, (by repeat constructor), (by repeat constructor), (by repeat constructor), ?_⟩
              (apply EffW.storeSl; exact rfl; exact rfl; (focus ((repeat constructor); done)); exact SzC.eq; (focus ((repeat constructor); done)))
            exact Par.nil
          · repeat (first | exact AllN.nil | (apply AllN.cons; (intro c x; (repeat (first | exact IndA.nil | (apply IndA.skip; decide +kernel) | apply IndA.same))))) 
          · repeat (first | exact AllN.nil | (apply AllN.cons; (intro c x; (repeat (first | exact IndT.nil | (apply IndT.skip; decide +kernel) | apply IndT.same))))) 
          · exact fun _ => rfl
          intro c
          refine ⟨_, (by repeat constructor), ?_⟩
          apply WE.writ
          · (focus ((repeat (first | exact Writ.nil | apply Writ.some | apply Writ.none)); done))
          generalize (c 8).1 = b8
          generalize (c 9).2 = v2
          dsimp only
          rw [show (tpart l (1 + n0 + n1) k).map i64 ++ [i64 ((l.getD (1 + n0 + n1 + k) 0).toNat : Int)] = (tpart l (1 + n0 + n1) (k + 1)).map i64 from by rw [tpart_succ l _ k hlt3]; simp, show (tpart l (1 + n0 + n1) k).length + 1 = (tpart l (1 + n0 + n1) (k + 1)).length from by rw [tpart_succ l _ k hlt3]; simp]
          repeat first
            | (apply WL.q; exact rfl; exact rfl; exact rfl; (first | (apply EvW.move; exact rfl) | (apply EvW.arN; exact rfl; exact rfl; exact rfl; refine i64_in ?_ ?_ <;> omega)))
            | refine WC.region ?_ | refine WL.nil ?_ | refine WE.next ?_ | refine WE.out ?_
          exact WE.again (s := (k, v)) ((k + 1, v2)) ⟨by simp only []; omega, by simp only []; omega⟩ (by (focus ((repeat (first | exact trivial | (refine ⟨rfl, ?_⟩))); done))) (fun _ h => (by (try simp only []); (try rw [← Nat.add_assoc]); exact h.keep (by repeat constructor))) (by (try simp only []); omega)
      · obtain rfl : n2 = k := by omega
        repeat first
          | (apply WL.q; exact rfl; exact rfl; exact rfl; (first | (apply EvW.move; exact rfl) | (apply EvW.cmpF; exact rfl; exact rfl; exact rfl; omega) | (apply EvW.arN; exact rfl; exact rfl; exact rfl; refine i64_in ?_ ?_ <;> omega)))
          | refine WC.seq ?_ | refine WC.region ?_ | refine WL.nil ?_ | refine WE.next ?_ | refine WC.exit ?_ | refine WE.pass ?_ | refine WE.hit ?_ | refine WE.out ?_ | refine WC.condF rfl ?_
        exact WE.again (s := (2, a, b, y, d)) ((3, a, b, v, d)) ⟨by simp only []; omega, by simp only [upto]; simp; omega⟩ (by (focus ((repeat (first | exact trivial | (refine ⟨rfl, ?_⟩))); done))) (fun _ h => (by (try simp only []); rw [show upto 3 0 n0 = n0 from rfl, show upto 3 1 n1 = n1 from rfl, show upto 3 2 n2 = n2 from rfl, show upto 3 3 n3 = 0 from rfl, show 1 + n0 + n1 + n2 + 0 = 1 + n0 + n1 + n2 from by omega]; exact h.keep (by repeat constructor))) (by (try simp only []); omega)
    · rw [show upto 3 0 n0 = n0 from rfl, show upto 3 1 n1 = n1 from rfl, show upto 3 2 n2 = n2 from rfl, show upto 3 3 n3 = 0 from rfl] at hol
      rw [show upto 3 0 n0 = n0 from rfl, show upto 3 1 n1 = n1 from rfl, show upto 3 2 n2 = n2 from rfl, show upto 3 3 n3 = 0 from rfl]
      rw [show 1 + n0 + n1 + n2 + 0 = 1 + n0 + n1 + n2 from by omega]
      have hol : 1 + n0 + n1 + n2 ≤ l.length := by omega
      repeat first
        | (apply WL.q; exact rfl; exact rfl; exact rfl; (first | (apply EvW.cmpT; exact rfl; exact rfl; exact rfl; omega) | (apply EvW.idxRow; exact rfl; exact rfl; exact UndC.eq; exact SzC.eq; assumption; omega; omega)))
        | refine WC.seq ?_ | refine WC.region ?_ | refine WL.nil ?_ | refine WE.next ?_ | refine WC.block ?_ | refine WC.skip ?_ | refine WC.condT rfl ?_
      (apply WL.q; exact rfl; exact rfl; exact rfl; (apply EvW.ldElem (xs := fs) (z := (default : Fl)) (f := flC); exact rfl; exact AggC.eq; exact SzC.eq; exact rfl; exact fun _ => rfl; assumption; omega))
      try refine WL.wanted rfl rfl rfl ?_
      (apply WL.alloc; exact rfl; exact ZvC.eq; exact rfl; intro x)
      rw [show fs.getD (((3 : Nat) : Int)).toNat default = ⟨q, 3, .slice none 0 0, [], n3, m3⟩ from by rw [hfs]; rfl]
      repeat first
        | (apply WL.q; exact rfl; exact rfl; exact rfl; (first | (apply EvW.move; exact rfl) | (apply EvW.fieldAddr0; exact rfl; exact FldC.eq) | (apply EvW.load; exact rfl; exact ScalC.eq; (focus ((repeat constructor); done)); exact rfl)))
        | refine WC.seq ?_ | refine WC.region ?_ | refine WL.nil ?_ | refine WE.next ?_ | refine WC.block ?_ | (apply WL.store; exact rfl; exact rfl; (first | assumption | exact rfl); exact SzC.eq; (first | assumption | exact rfl); (focus ((repeat constructor); done)))
      refine WC.loopK (σ := Nat × Value) [2, 7, 9, 16, 17, 18, 23] (fun s => [(24, i64 s.1)]) (fun s => [.blk r #[i64 (PR.mk 0 (l.drop (1 + n0 + n1 + n2 + s.1))).e, str (PR.mk 0 (l.drop (1 + n0 + n1 + n2 + s.1))).s] 152, .blk q #[a, b, y, s.2] U, .own 3 1 (s.2) (tpart l (1 + n0 + n1 + n2) s.1).length ((tpart l (1 + n0 + n1 + n2) s.1).map i64), .own 3 1 (a) (tpart l (1) n0).length ((tpart l (1) n0).map i64), .own 3 1 (b) (tpart l (1 + n0) n1).length ((tpart l (1 + n0) n1).map i64), .own 3 1 (y) (tpart l (1 + n0 + n1) n2).length ((tpart l (1 + n0 + n1) n2).map i64), .blk x #[ptr q 3, i64 n3, i64 m3] 141]) (fun s => s.1 ≤ n3 ∧ 1 + n0 + n1 + n2 + s.1 ≤ l.length) (fun s => n3 - s.1) (0, d) (by (focus ((repeat (first | exact Pick.nil | (apply Pick.cons; exact rfl))); done))) (by (focus ((repeat (first | exact trivial | (refine ⟨rfl, ?_⟩))); done))) (fun _ h => h.keep (by repeat constructor)) ⟨Nat.zero_le _, hol⟩ (fun s hs => ?_)
      obtain ⟨k, v⟩ := s
      simp only [List.cons_append, List.nil_append] at hs ⊢
      obtain ⟨hs2, hol2⟩ := hs
      by_cases hlt2 : (k : Int) < n3
      · by_cases hz : ((l.drop (1 + n0 + n1 + n2 + k)).length : Int) = 0
        · repeat first
            | (apply WL.q; exact rfl; exact rfl; exact rfl; (first | (apply EvW.move; exact rfl) | (apply EvW.cmpT; exact rfl; exact rfl; exact rfl; omega)))
            | refine WC.seq ?_ | refine WC.region ?_ | refine WL.nil ?_ | refine WE.next ?_ | refine WC.block ?_ | refine WC.skip ?_ | refine WC.condT rfl ?_
          try refine WL.wanted rfl rfl rfl ?_
          apply WL.callA ([.blk r #[i64 (PR.mk 0 (l.drop (1 + n0 + n1 + n2 + k))).e, str (PR.mk 0 (l.drop (1 + n0 + n1 + n2 + k))).s] 152])
          · exact rfl
          · exact rfl
          · exact fun w => Try.call77 _ w
          · (focus ((repeat constructor); done))
          · exact fun w1 S1 hS1 hs1 ho1 => left_spec r (PR.mk 0 (l.drop (1 + n0 + n1 + n2 + k))) w1 S1 hS1
          rintro _ _ ⟨rfl, rfl⟩
          first | refine WL.app4 ?_ | refine WL.app3 ?_ | refine WL.app2 ?_ | refine WL.app1 ?_ | refine WL.app0 ?_ | skip
          dsimp only
          repeat first
            | (apply WL.q; exact rfl; exact rfl; exact rfl; (first | (apply EvW.assign; exact rfl) | (apply EvW.cmpT; exact rfl; exact rfl; exact rfl; omega)))
            | refine WC.seq ?_ | refine WC.region ?_ | refine WL.nil ?_ | refine WE.next ?_ | refine WC.condT rfl ?_ | refine WC.ret ?_ | refine WE.passRet ?_ | refine WE.outRet ?_
          refine WE.bare ?_
          refine WE.ret1 rfl rfl ?_
          refine .inl ⟨rfl, rfl, fun h => ?_⟩
          have h1 := h.1
          rw [List.length_drop] at hz
          omega
        · have hlt3 : 1 + n0 + n1 + n2 + k < l.length := by rw [List.length_drop] at hz; omega
          have hpl := tpart_length l (1 + n0 + n1 + n2) k (by omega)
          repeat first
            | (apply WL.q; exact rfl; exact rfl; exact rfl; (first | (apply EvW.move; exact rfl) | (apply EvW.cmpT; exact rfl; exact rfl; exact rfl; omega)))
            | refine WC.seq ?_ | refine WC.region ?_ | refine WL.nil ?_ | refine WE.next ?_ | refine WC.block ?_ | refine WC.skip ?_ | refine WC.condT rfl ?_
          try refine WL.wanted rfl rfl rfl ?_
          apply WL.callA ([.blk r #[i64 (PR.mk 0 (l.drop (1 + n0 + n1 + n2 + k))).e, str (PR.mk 0 (l.drop (1 + n0 + n1 + n2 + k))).s] 152])
          · exact rfl
          · exact rfl
          · exact fun w => Try.call77 _ w
          · (focus ((repeat constructor); done))
          · exact fun w1 S1 hS1 hs1 ho1 => left_spec r (PR.mk 0 (l.drop (1 + n0 + n1 + n2 + k))) w1 S1 hS1
          rintro _ _ ⟨rfl, rfl⟩
          first | refine WL.app4 ?_ | refine WL.app3 ?_ | refine WL.app2 ?_ | refine WL.app1 ?_ | refine WL.app0 ?_ | skip
          dsimp only
          repeat first
            | (apply WL.q; exact rfl; exact rfl; exact rfl; (first | (apply EvW.cmpF; exact rfl; exact rfl; exact rfl; omega)))
            | refine WL.nil ?_ | refine WE.next ?_ | refine WC.skip ?_ | refine WC.condF rfl ?_
          repeat refine WC.seq ?_
          refine WC.keep (xs := [.blk x #[ptr q 3, i64 n3, i64 m3] 141, .blk r #[i64 (PR.mk 0 (l.drop (1 + n0 + n1 + n2 + k))).e, str (PR.mk 0 (l.drop (1 + n0 + n1 + n2 + k))).s] 152, .own 3 1 (v) (tpart l (1 + n0 + n1 + n2) k).length ((tpart l (1 + n0 + n1 + n2) k).map i64), .blk q #[a, b, y, v] U, .own 3 1 (a) (tpart l (1) n0).length ((tpart l (1) n0).map i64), .own 3 1 (b) (tpart l (1 + n0) n1).length ((tpart l (1 + n0) n1).map i64), .own 3 1 (y) (tpart l (1 + n0 + n1) n2).length ((tpart l (1 + n0 + n1) n2).map i64)]) (by repeat constructor) ?_
          apply WC.par _ (fun c : Ch => [.blk x #[ptr q 3, i64 n3, i64 m3] 141, .blk r #[i64 (PR.mk 0 (l.drop (1 + n0 + n1 + n2 + k))).e, str (PR.mk 0 (l.drop (1 + n0 + n1 + n2 + k))).s] 152, .blk r #[i64 (PR.mk 0 (l.drop (1 + n0 + n1 + n2 + k + 1))).e, str (PR.mk 0 (l.drop (1 + n0 + n1 + n2 + k + 1))).s] 152, .own 3 1 (v) (tpart l (1 + n0 + n1 + n2) k).length ((tpart l (1 + n0 + n1 + n2) k).map i64), .blk (c 8).1 #[i64 ((l.getD (1 + n0 + n1 + n2 + k) 0).toNat : Int)] 3, .own 3 1 ((c 9).2) ((tpart l (1 + n0 + n1 + n2) k).length + 1) ((tpart l (1 + n0 + n1 + n2) k).map i64 ++ [i64 ((l.getD (1 + n0 + n1 + n2 + k) 0).toNat : Int)]), .blk q #[a, b, y, v] U, .blk q #[a, b, y, (c 9).2] U, .own 3 1 (a) (tpart l (1) n0).length ((tpart l (1) n0).map i64), .own 3 1 (b) (tpart l (1 + n0) n1).length ((tpart l (1 + n0) n1).map i64), .own 3 1 (y) (tpart l (1 + n0 + n1) n2).length ((tpart l (1 + n0 + n1) n2).map i64)]) [none, none, some 7, none, some 8, some 9, none, some 11, none, none, none] [none, some 7, none, some 9, some 9, none, some 11, none, none, none, none] [(8, fun x => .slice (some ⟨x.1, 0, none⟩) 1 1), (9, fun x => x.2)] Try.mixed
          · (focus ((repeat (first | exact Restr.nil | (apply Restr.keep; exact rfl; exact rfl) | (apply Restr.drop; exact rfl))); done))
          · intro c; exact (by repeat constructor)
          · exact rfl
          · decide +kernel
          · decide +kernel
          · intro c
            (apply Par.quiet _ [true, false, false, false, false, false, true, false, true, true, true]; exact rfl; decide +kernel; exact rfl; intro R; refine ⟨_, (by repeat constructor), ?_⟩;
                 (first | (apply EvW.fieldAddr0; exact rfl; exact FldC.eq)))
            (apply Par.quiet _ [true, false, false, false, false, false, true, false, true, true, true]; exact rfl; decide +kernel; exact rfl; intro R; refine ⟨_, (by repeat constructor), ?_⟩;
                 (first | (apply EvW.load; exact rfl; exact ScalC.eq; (focus ((repeat constructor); done)); exact rfl)))
            (apply Par.quiet _ [true, false, false, true, false, false, true, false, true, true, true]; exact rfl; decide +kernel; exact rfl; intro R; refine ⟨_, (by repeat constructor), ?_⟩;
                 (first | (apply EvW.fieldAddr0; exact rfl; exact FldC.eq)))
            (apply Par.quiet _ [true, false, false, true, false, false, true, false, true, true, true]; exact rfl; decide +kernel; exact rfl; intro R; refine ⟨_, (by repeat constructor), ?_⟩;
                 (first | (apply EvW.load; exact rfl; exact ScalC.eq; (focus ((repeat constructor); done)); exact rfl)))
            (apply Par.quiet _ [true, false, false, true, false, false, true, false, true, true, true]; exact rfl; decide +kernel; exact rfl; intro R; refine ⟨_, (by repeat constructor), ?_⟩;
                 (first | (apply EvW.nilPtr; exact rfl)))
            (apply Par.quiet _ [true, false, false, true, false, false, true, false, true, true, true]; exact rfl; decide +kernel; exact rfl; intro R; refine ⟨_, (by repeat constructor), ?_⟩;
                 (first | (apply EvW.load; exact rfl; exact ScalC.eq; (focus ((repeat constructor); done)); exact rfl)))
            (apply Par.quiet _ [true, true, false, true, false, false, true, false, true, true, true]; exact rfl; decide +kernel; exact rfl; intro R; refine ⟨_, (by repeat constructor), ?_⟩;
                 (first | (apply EvW.move; exact rfl)))
            apply Par.eff _ [false, true, false, false, false, false, false, false, false, false, false] [false, false, true, false, false, false, false, false, false, false, false] [true, false, false, true, false, false, true, false, true, true, true]
            · exact rfl
            · exact rfl
            · decide +kernel
            · intro R
              refine ⟨_, _, _, (by repeat constructor), (by repeat constructor), (by repeat constructor), ?_⟩
              apply EffW.callT
              · exact rfl
              · exact fun w1 S1 hS1 hs1 ho1 => (by have h := rbyte_spec r (PR.mk 0 (l.drop (1 + n0 + n1 + n2 + k))) w1 S1 hS1 (by simp; omega); rw [num1_drop l _ hlt3] at h; exact h)
              · exact fun w => Try.call72 _ w
              · (focus ((repeat constructor); done))
              · exact fun _ _ h => h
              · exact fun _ h => TakeT.st (by (focus ((repeat (first | exact TakeT.tail | apply TakeT.cons | exact Take.head | apply Take.tail | apply TakeT.drop)); done))) h
            (apply Par.new _ [false, false, false, false, false, false, false, false, false, false, false] [false, false, false, false, true, false, false, false, false, false, false] [true, false, true, true, false, false, true, false, true, true, true]; exact rfl; exact rfl; decide +kernel; intro R; refine ⟨_, _, _, (by repeat constructor), (by repeat constructor), (fun x => (by repeat constructor)), ?_⟩; (apply NewW.buildSlice; exact UndC.eq; exact SzC.eq; exact ZvC.eq; exact rfl; exact rfl; exact rfl; (focus ((repeat (first | exact Flat.nil | (apply Flat.one; (first | exact rfl | assumption)) | (apply Flat.cons; exact rfl; exact rfl))); done)); exact rfl; exact rfl; exact fun _ => rfl))
            apply Par.new _ [false, false, false, true, true, false, false, false, false, false, false] [false, false, false, false, false, true, false, false, false, false, false] [true, false, true, false, false, false, true, false, true, true, true]
            · exact rfl
            · exact rfl
            · decide +kernel
            · intro R
              refine ⟨_, _, _, (by repeat constructor), (by repeat constructor), (fun x => (by repeat constructor)), ?_⟩
              (apply NewW.append; exact rfl; exact rfl; exact UndC.eq; exact SzC.eq; exact ByC.eq; exact ZvC.eq; exact rfl; (first | exact notInt_sl UndC.eq | exact notInt_st UndC.eq); exact rfl; (focus ((repeat constructor); done)))
              · exact adds_blk (by repeat constructor) rfl rfl
              · (omega)
              · exact fun _ _ h => TakeT.st (by (focus ((repeat (first | exact TakeT.tail | apply TakeT.cons | exact Take.head | apply Take.tail | apply TakeT.drop)); done))) h
            (apply Par.quiet _ [true, false, true, false, false, true, true, false, true, true, true]; exact rfl; decide +kernel; exact rfl; intro R; refine ⟨_, (by repeat constructor), ?_⟩;
                 (first | (apply EvW.nilPtr; exact rfl)))
            apply Par.eff _ [false, false, false, false, false, false, true, false, false, false, false] [false, false, false, false, false, false, false, true, false, false, false] [true, false, true, false, false, true, false, false, true, true, true]
            · exact rfl
            · exact rfl
            · decide +kernel
            · intro R
              refine ⟨_, _, _, (by repeat constructor), (by repeat constructor), (by repeat constructor), ?_⟩
              (apply EffW.storeSl; exact rfl; exact rfl; (focus ((repeat constructor); done)); exact SzC.eq; (focus ((repeat constructor); done)))
            exact Par.nil
          · repeat (first | exact AllN.nil | (apply AllN.cons; (intro c x; (repeat (first | exact IndA.nil | (apply IndA.skip; decide +kernel) | apply IndA.same))))) 
          · repeat (first | exact AllN.nil | (apply AllN.cons; (intro c x; (repeat (first | exact IndT.nil | (apply IndT.skip; decide +kernel) | apply IndT.same))))) 
          · exact fun _ => rfl
          intro c
          refine ⟨_, (by repeat constructor), ?_⟩
          apply WE.writ
          · (focus ((repeat (first | exact Writ.nil | apply Writ.some | apply Writ.none)); done))
          generalize (c 8).1 = b8
          generalize (c 9).2 = v2
          dsimp only
          rw [show (tpart l (1 + n0 + n1 + n2) k).map i64 ++ [i64 ((l.getD (1 + n0 + n1 + n2 + k) 0).toNat : Int)] = (tpart l (1 + n0 + n1 + n2) (k + 1)).map i64 from by rw [tpart_succ l _ k hlt3]; simp, show (tpart l (1 + n0 + n1 + n2) k).length + 1 = (tpart l (1 + n0 + n1 + n2) (k + 1)).length from by rw [tpart_succ l _ k hlt3]; simp]
          repeat first
            | (apply WL.q; exact rfl; exact rfl; exact rfl; (first | (apply EvW.move; exact rfl) | (apply EvW.arN; exact rfl; exact rfl; exact rfl; refine i64_in ?_ ?_ <;> omega)))
            | refine WC.region ?_ | refine WL.nil ?_ | refine WE.next ?_ | refine WE.out ?_
          exact WE.again (s := (k, v)) ((k + 1, v2)) ⟨by simp only []; omega, by simp only []; omega⟩ (by (focus ((repeat (first | exact trivial | (refine ⟨rfl, ?_⟩))); done))) (fun _ h => (by (try simp only []); (try rw [← Nat.add_assoc]); exact h.keep (by repeat constructor))) (by (try simp only []); omega)
      · obtain rfl : n3 = k := by omega
        repeat first
          | (apply WL.q; exact rfl; exact rfl; exact rfl; (first | (apply EvW.move; exact rfl) | (apply EvW.cmpF; exact rfl; exact rfl; exact rfl; omega) | (apply EvW.arN; exact rfl; exact rfl; exact rfl; refine i64_in ?_ ?_ <;> omega)))
          | refine WC.seq ?_ | refine WC.region ?_ | refine WL.nil ?_ | refine WE.next ?_ | refine WC.exit ?_ | refine WE.pass ?_ | refine WE.hit ?_ | refine WE.out ?_ | refine WC.condF rfl ?_
        exact WE.again (s := (3, a, b, y, d)) ((4, a, b, y, v)) ⟨by simp only []; omega, by simp only [upto]; simp; omega⟩ (by (focus ((repeat (first | exact trivial | (refine ⟨rfl, ?_⟩))); done))) (fun _ h => (by (try simp only []); rw [show upto 4 0 n0 = n0 from rfl, show upto 4 1 n1 = n1 from rfl, show upto 4 2 n2 = n2 from rfl, show upto 4 3 n3 = n3 from rfl]; exact h.keep (by repeat constructor))) (by (try simp only []); omega)
  · obtain rfl : i = 4 := by omega
    rw [show upto 4 0 n0 = n0 from rfl, show upto 4 1 n1 = n1 from rfl, show upto 4 2 n2 = n2 from rfl, show upto 4 3 n3 = n3 from rfl] at hol
    rw [show upto 4 0 n0 = n0 from rfl, show upto 4 1 n1 = n1 from rfl, show upto 4 2 n2 = n2 from rfl, show upto 4 3 n3 = n3 from rfl]
    repeat first
      | (apply WL.q; exact rfl; exact rfl; exact rfl; (first | (apply EvW.move; exact rfl) | (apply EvW.cmpF; exact rfl; exact rfl; exact rfl; omega)))
      | refine WC.seq ?_ | refine WC.region ?_ | refine WL.nil ?_ | refine WE.next ?_ | refine WC.exit ?_ | refine WE.pass ?_ | refine WE.hit ?_ | refine WC.condF rfl ?_
    try refine WL.wanted rfl rfl rfl ?_
    apply WL.callA ([.blk r #[i64 (PR.mk 0 (l.drop (1 + n0 + n1 + n2 + n3))).e, str (PR.mk 0 (l.drop (1 + n0 + n1 + n2 + n3))).s] 152])
    · exact rfl
    · exact rfl
    · exact fun w => Try.call78 _ w
    · (focus ((repeat constructor); done))
    · exact fun w1 S1 hS1 hs1 ho1 => rend_spec r (PR.mk 0 (l.drop (1 + n0 + n1 + n2 + n3))) w1 S1 hS1
    rintro _ _ ⟨rfl, rfl⟩
    first | refine WL.app4 ?_ | refine WL.app3 ?_ | refine WL.app2 ?_ | refine WL.app1 ?_ | refine WL.app0 ?_ | skip
    by_cases hend : l.length = 1 + n0 + n1 + n2 + n3
    · rw [show (PR.mk 0 (l.drop (1 + n0 + n1 + n2 + n3))).fin = 0 from by rw [List.drop_eq_nil_of_le (by omega)]; rfl]
      obtain ⟨gs, hgs⟩ : ∃ gs : List Fl, gs = [⟨q, 0, a, tpart l (1) n0, n0, m0⟩, ⟨q, 1, b, tpart l (1 + n0) n1, n1, m1⟩, ⟨q, 2, y, tpart l (1 + n0 + n1) n2, n2, m2⟩, ⟨q, 3, d, tpart l (1 + n0 + n1 + n2) n3, n3, m3⟩] := ⟨_, rfl⟩
      have hrow : fs.flatMap flC = gs.flatMap flC := by rw [hfs, hgs]; rfl
      have hgl : gs.length = 4 := by rw [hgs]; rfl
      have hgo : gs.all Fl.ok = true ↔ good4 l kind n0 n1 n2 n3 m0 m1 m2 m3 := by
        rw [hgs]
        simp only [List.all_cons, List.all_nil, Fl.ok, Bool.and_true, Bool.and_eq_true, decide_eq_true_eq]
        unfold good4
        have hp0 := tpart_length l (1) n0 (by omega)
        have hp1 := tpart_length l (1 + n0) n1 (by omega)
        have hp2 := tpart_length l (1 + n0 + n1) n2 (by omega)
        have hp3 := tpart_length l (1 + n0 + n1 + n2) n3 (by omega)
        constructor
        · rintro ⟨⟨_, g0⟩, ⟨_, g1⟩, ⟨_, g2⟩, ⟨_, g3⟩⟩
          exact ⟨hend, hkd, g0, g1, g2, g3⟩
        · rintro ⟨_, _, g0, g1, g2, g3⟩
          exact ⟨⟨by omega, g0⟩, ⟨by omega, g1⟩, ⟨by omega, g2⟩, ⟨by omega, g3⟩⟩
      rw [hrow] at hf
      have hf2 : Sees w S (.row 3 fv gs.length (gs.flatMap flC)) := by rw [hgl]; exact hf
      by_cases hg : good4 l kind n0 n1 n2 n3 m0 m1 m2 m3
      · have hok := hgo.2 hg
        repeat first
          | (apply WL.q; exact rfl; exact rfl; exact rfl; (first | (apply EvW.move; exact rfl) | (apply EvW.cmpF; exact rfl; exact rfl; exact rfl; omega)))
          | refine WL.wanted rfl rfl rfl ?_
        try refine WL.wanted rfl rfl rfl ?_
        apply WL.callA ([])
        · exact rfl
        · exact rfl
        · exact fun w => Try.call79 _ w
        · (focus ((repeat constructor); done))
        · exact fun w1 S1 hS1 hs1 ho1 => right_spec fv gs w1 S1 hS1 (hs1 _ hf2) (by rw [hgs]; have hb := ho1 _ _ (show Take (.blk q #[a, b, y, d] U) _ _ by (focus ((repeat constructor); done))); intro f hf; simp only [List.mem_cons, List.not_mem_nil, or_false] at hf; rcases hf with rfl | rfl | rfl | rfl; exact ⟨⟨_, _, hb, rfl⟩, (ho1 _ _ (show Take (.own 3 1 (a) (tpart l (1) n0).length ((tpart l (1) n0).map i64)) _ _ by (focus ((repeat constructor); done)))).own, by rw [tpart_length l _ _ (by omega)]; exact hb0⟩; exact ⟨⟨_, _, hb, rfl⟩, (ho1 _ _ (show Take (.own 3 1 (b) (tpart l (1 + n0) n1).length ((tpart l (1 + n0) n1).map i64)) _ _ by (focus ((repeat constructor); done)))).own, by rw [tpart_length l _ _ (by omega)]; exact hb1⟩; exact ⟨⟨_, _, hb, rfl⟩, (ho1 _ _ (show Take (.own 3 1 (y) (tpart l (1 + n0 + n1) n2).length ((tpart l (1 + n0 + n1) n2).map i64)) _ _ by (focus ((repeat constructor); done)))).own, by rw [tpart_length l _ _ (by omega)]; exact hb2⟩; exact ⟨⟨_, _, hb, rfl⟩, (ho1 _ _ (show Take (.own 3 1 (d) (tpart l (1 + n0 + n1 + n2) n3).length ((tpart l (1 + n0 + n1 + n2) n3).map i64)) _ _ by (focus ((repeat constructor); done)))).own, by rw [tpart_length l _ _ (by omega)]; exact hb3⟩) (by omega)
        rintro _ _ ⟨rfl, rfl⟩
        first | refine WL.app4 ?_ | refine WL.app3 ?_ | refine WL.app2 ?_ | refine WL.app1 ?_ | refine WL.app0 ?_ | skip
        rw [hok]
        repeat first
          | (apply WL.q; exact rfl; exact rfl; exact rfl; (first | (apply EvW.assign; exact rfl) | (apply EvW.pickF; exact rfl; exact rfl) | (apply EvW.notT; exact rfl)))
          | refine WC.seq ?_ | refine WC.region ?_ | refine WL.nil ?_ | refine WE.next ?_ | refine WC.skip ?_ | refine WC.condF rfl ?_ | refine WC.ret ?_ | refine WL.wanted rfl rfl rfl ?_
        refine WE.keep (xs := [.blk q #[a, b, y, d] U, .own 3 1 (a) (tpart l (1) n0).length ((tpart l (1) n0).map i64), .own 3 1 (b) (tpart l (1 + n0) n1).length ((tpart l (1 + n0) n1).map i64), .own 3 1 (y) (tpart l (1 + n0 + n1) n2).length ((tpart l (1 + n0 + n1) n2).map i64), .own 3 1 (d) (tpart l (1 + n0 + n1 + n2) n3).length ((tpart l (1 + n0 + n1 + n2) n3).map i64)]) (by repeat constructor) ?_
        refine WE.ret1 rfl rfl ?_
        exact .inr ⟨rfl, hg, a, b, y, d, rfl⟩
      · have hok : gs.all Fl.ok = false := by rw [← Bool.not_eq_true]; exact fun h => hg (hgo.1 h)
        repeat first
          | (apply WL.q; exact rfl; exact rfl; exact rfl; (first | (apply EvW.move; exact rfl) | (apply EvW.cmpF; exact rfl; exact rfl; exact rfl; omega)))
          | refine WL.wanted rfl rfl rfl ?_
        try refine WL.wanted rfl rfl rfl ?_
        apply WL.callA ([])
        · exact rfl
        · exact rfl
        · exact fun w => Try.call79 _ w
        · (focus ((repeat constructor); done))
        · exact fun w1 S1 hS1 hs1 ho1 => right_spec fv gs w1 S1 hS1 (hs1 _ hf2) (by rw [hgs]; have hb := ho1 _ _ (show Take (.blk q #[a, b, y, d] U) _ _ by (focus ((repeat constructor); done))); intro f hf; simp only [List.mem_cons, List.not_mem_nil, or_false] at hf; rcases hf with rfl | rfl | rfl | rfl; exact ⟨⟨_, _, hb, rfl⟩, (ho1 _ _ (show Take (.own 3 1 (a) (tpart l (1) n0).length ((tpart l (1) n0).map i64)) _ _ by (focus ((repeat constructor); done)))).own, by rw [tpart_length l _ _ (by omega)]; exact hb0⟩; exact ⟨⟨_, _, hb, rfl⟩, (ho1 _ _ (show Take (.own 3 1 (b) (tpart l (1 + n0) n1).length ((tpart l (1 + n0) n1).map i64)) _ _ by (focus ((repeat constructor); done)))).own, by rw [tpart_length l _ _ (by omega)]; exact hb1⟩; exact ⟨⟨_, _, hb, rfl⟩, (ho1 _ _ (show Take (.own 3 1 (y) (tpart l (1 + n0 + n1) n2).length ((tpart l (1 + n0 + n1) n2).map i64)) _ _ by (focus ((repeat constructor); done)))).own, by rw [tpart_length l _ _ (by omega)]; exact hb2⟩; exact ⟨⟨_, _, hb, rfl⟩, (ho1 _ _ (show Take (.own 3 1 (d) (tpart l (1 + n0 + n1 + n2) n3).length ((tpart l (1 + n0 + n1 + n2) n3).map i64)) _ _ by (focus ((repeat constructor); done)))).own, by rw [tpart_length l _ _ (by omega)]; exact hb3⟩) (by omega)
        rintro _ _ ⟨rfl, rfl⟩
        first | refine WL.app4 ?_ | refine WL.app3 ?_ | refine WL.app2 ?_ | refine WL.app1 ?_ | refine WL.app0 ?_ | skip
        rw [hok]
        repeat first
          | (apply WL.q; exact rfl; exact rfl; exact rfl; (first | (apply EvW.assign; exact rfl) | (apply EvW.pickF; exact rfl; exact rfl) | (apply EvW.notF; exact rfl)))
          | refine WC.seq ?_ | refine WC.region ?_ | refine WL.nil ?_ | refine WE.next ?_ | refine WC.condT rfl ?_ | refine WC.ret ?_ | refine WE.passRet ?_ | refine WL.wanted rfl rfl rfl ?_
        refine WE.bare ?_
        refine WE.ret1 rfl rfl ?_
        exact .inl ⟨rfl, rfl, hg⟩
    · have hne : ¬ (PR.mk 0 (l.drop (1 + n0 + n1 + n2 + n3))).fin = 0 := by
        unfold PR.fin
        rw [if_pos ⟨rfl, fun h => by have := congrArg List.length h; simp at this; omega⟩]
        decide
      repeat first
        | (apply WL.q; exact rfl; exact rfl; exact rfl; (first | (apply EvW.move; exact rfl) | (apply EvW.assign; exact rfl) | (apply EvW.cmpT; exact rfl; exact rfl; exact rfl; omega) | (apply EvW.pickT; exact rfl; exact rfl)))
        | refine WC.seq ?_ | refine WC.region ?_ | refine WL.nil ?_ | refine WE.next ?_ | refine WC.condT rfl ?_ | refine WC.ret ?_ | refine WE.passRet ?_ | refine WL.unwanted rfl rfl rfl rfl ?_
      refine WE.bare ?_
      refine WE.ret1 rfl rfl ?_
      exact .inl ⟨rfl, rfl, fun h => hend h.1⟩
end Go.Proofs.Ytamofjpadnnppaa
namespace Go.Proofs.Ytamofjpadnnppaa
open Go.RowKit Go.BK
/-- Four lists, three lists. -/
structure Q4 where
  a : Value
  b : Value
  y : Value
  d : Value
  la : List Int
  lb : List Int
  ly : List Int
  ld : List Int
structure Q4.Seen (x : Q4) (w : World) (S : BSet) : Prop where
  a : Sees w S (.row 1 x.a x.la.length (x.la.map i64))
  b : Sees w S (.row 1 x.b x.lb.length (x.lb.map i64))
  y : Sees w S (.row 1 x.y x.ly.length (x.ly.map i64))
  d : Sees w S (.row 1 x.d x.ld.length (x.ld.map i64))
  na : x.la.length ≤ 17592186044416
  nb : x.lb.length ≤ 17592186044416
  ny : x.ly.length ≤ 17592186044416
  nd : x.ld.length ≤ 17592186044416
theorem Q4.Seen.down {x : Q4} {w w' : World} {S S' : BSet} (h : x.Seen w S) (k : ∀ B, Sees w S B → Sees w' S' B) : x.Seen w' S' := ⟨k _ h.a, k _ h.b, k _ h.y, k _ h.d, h.na, h.nb, h.ny, h.nd⟩
def okF (l : List Int) (n m : Int) : Bool := decide ((l.length : Int) = n) && l.all (inTo m)
def sOk (h s : Q4) : Bool := okF s.la h.la.length 1 && (okF s.lb h.lb.length 2 && (okF s.ly h.ly.length 1 && (okF s.ld h.ld.length 1 && true)))
def sPay (s : Q4) : List UInt8 := be 1 1 ++ (s.la.flatMap (be 1) ++ (s.lb.flatMap (be 1) ++ (s.ly.flatMap (be 1) ++ (s.ld.flatMap (be 1) ++ []))))
def sGood (h : Q4) (l : List UInt8) : Prop := good4 l 1 h.la.length h.lb.length h.ly.length h.ld.length 1 2 1 1
theorem status_spec (h : Q4) (q : Nat) (w : World) (S : BSet) (hS : (sepL []).sat S w) (hh : h.Seen w S) :
    Tri Try.prog 60 #[.agg #[(h).a, (h).b, (h).y, (h).d], ptr q 0] w S fun u A => ∃ f, u = .slice (some ⟨f, 0, none⟩) 4 4 ∧ A = [.blk f #[ptr q 0, i64 (h.la.length : Int), i64 1, ptr q 1, i64 (h.lb.length : Int), i64 2, ptr q 2, i64 (h.ly.length : Int), i64 1, ptr q 3, i64 (h.ld.length : Int), i64 1] 141] := by
  refine Tri.enter (l := [.agg #[(h).a, (h).b, (h).y, (h).d], ptr q 0]) Try.func60 rfl Try.ntmps60 rfl [(0, .agg #[(h).a, (h).b, (h).y, (h).d]), (1, ptr q 0)] (subA rfl) hS ?_
  have ha := hh.a
  have hb := hh.b
  have hy := hh.y
  have hd := hh.d
  repeat first
    | refine WC.seq ?_ | refine WC.region ?_
  try refine WL.wanted rfl rfl rfl ?_
  (apply WL.box; exact rfl; exact rfl; exact rfl; intro q1)
  repeat first
    | (apply WL.q; exact rfl; exact rfl; exact rfl; (first | (apply EvW.assign; exact rfl)))
    | refine WC.seq ?_ | refine WL.nil ?_ | refine WE.next ?_
  repeat refine WC.seq ?_
  refine WC.keep (xs := [.blk q1 #[h.a, h.b, h.y, h.d] 51]) (by repeat constructor) ?_
  apply WC.par _ (fun c : Ch => [.blk q1 #[h.a, h.b, h.y, h.d] 51, .blk (c 28).1 #[ptr q 0, i64 (h.la.length : Int), i64 1, ptr q 1, i64 (h.lb.length : Int), i64 2, ptr q 2, i64 (h.ly.length : Int), i64 1, ptr q 3, i64 (h.ld.length : Int), i64 1] 141]) [none, some 28] [none, none] [(28, fun x => .slice (some ⟨x.1, 0, none⟩) 4 4)] Try.mixed
  · (focus ((repeat (first | exact Restr.nil | (apply Restr.keep; exact rfl; exact rfl) | (apply Restr.drop; exact rfl))); done))
  · intro c; exact (by repeat constructor)
  · exact rfl
  · decide +kernel
  · decide +kernel
  · intro c
    (apply Par.quiet _ [true, false]; exact rfl; decide +kernel; exact rfl; intro R; refine ⟨_, (by repeat constructor), ?_⟩;
         (first | (apply EvW.move; exact rfl)))
    (apply Par.quiet _ [true, false]; exact rfl; decide +kernel; exact rfl; intro R; refine ⟨_, (by repeat constructor), ?_⟩;
         (first | (apply EvW.nilPtr; exact rfl)))
    (apply Par.quiet _ [true, false]; exact rfl; decide +kernel; exact rfl; intro R; refine ⟨_, (by repeat constructor), ?_⟩;
         (first | (apply EvW.fieldAddr0; exact rfl; exact FldC.eq)))
    (apply Par.quiet _ [true, false]; exact rfl; decide +kernel; exact rfl; intro R; refine ⟨_, (by repeat constructor), ?_⟩;
         (first | (apply EvW.fieldAddr0; exact rfl; exact FldC.eq)))
    (apply Par.quiet _ [true, false]; exact rfl; decide +kernel; exact rfl; intro R; refine ⟨_, (by repeat constructor), ?_⟩;
         (first | (apply EvW.load; exact rfl; exact ScalC.eq; (focus ((repeat constructor); done)); exact rfl)))
    (apply Par.quiet _ [true, false]; exact rfl; decide +kernel; exact rfl; intro R; refine ⟨_, (by repeat constructor), ?_⟩;
         (first | (apply EvW.lenRow; exact rfl; exact UndC.eq; assumption)))
    (apply Par.quiet _ [true, false]; exact rfl; decide +kernel; exact rfl; intro R; refine ⟨_, (by repeat constructor), ?_⟩;
         (first | (apply EvW.build; exact PlC.eq; exact ZvC.eq; exact rfl; exact rfl; (focus ((repeat (first | exact Fills.nil | (apply Fills.cons; exact rfl; (first | assumption | exact rfl); exact rfl) | exact SetMany.nil | apply SetMany.cons | apply SetMany.succ)); done)))))
    (apply Par.quiet _ [true, false]; exact rfl; decide +kernel; exact rfl; intro R; refine ⟨_, (by repeat constructor), ?_⟩;
         (first | (apply EvW.move; exact rfl)))
    (apply Par.quiet _ [true, false]; exact rfl; decide +kernel; exact rfl; intro R; refine ⟨_, (by repeat constructor), ?_⟩;
         (first | (apply EvW.nilPtr; exact rfl)))
    (apply Par.quiet _ [true, false]; exact rfl; decide +kernel; exact rfl; intro R; refine ⟨_, (by repeat constructor), ?_⟩;
         (first | (apply EvW.fieldAddr0; exact rfl; exact FldC.eq)))
    (apply Par.quiet _ [true, false]; exact rfl; decide +kernel; exact rfl; intro R; refine ⟨_, (by repeat constructor), ?_⟩;
         (first | (apply EvW.fieldAddr0; exact rfl; exact FldC.eq)))
    (apply Par.quiet _ [true, false]; exact rfl; decide +kernel; exact rfl; intro R; refine ⟨_, (by repeat constructor), ?_⟩;
         (first | (apply EvW.load; exact rfl; exact ScalC.eq; (focus ((repeat constructor); done)); exact rfl)))
    (apply Par.quiet _ [true, false]; exact rfl; decide +kernel; exact rfl; intro R; refine ⟨_, (by repeat constructor), ?_⟩;
         (first | (apply EvW.lenRow; exact rfl; exact UndC.eq; assumption)))
    (apply Par.quiet _ [true, false]; exact rfl; decide +kernel; exact rfl; intro R; refine ⟨_, (by repeat constructor), ?_⟩;
         (first | (apply EvW.build; exact PlC.eq; exact ZvC.eq; exact rfl; exact rfl; (focus ((repeat (first | exact Fills.nil | (apply Fills.cons; exact rfl; (first | assumption | exact rfl); exact rfl) | exact SetMany.nil | apply SetMany.cons | apply SetMany.succ)); done)))))
    (apply Par.quiet _ [true, false]; exact rfl; decide +kernel; exact rfl; intro R; refine ⟨_, (by repeat constructor), ?_⟩;
         (first | (apply EvW.move; exact rfl)))
    (apply Par.quiet _ [true, false]; exact rfl; decide +kernel; exact rfl; intro R; refine ⟨_, (by repeat constructor), ?_⟩;
         (first | (apply EvW.nilPtr; exact rfl)))
    (apply Par.quiet _ [true, false]; exact rfl; decide +kernel; exact rfl; intro R; refine ⟨_, (by repeat constructor), ?_⟩;
         (first | (apply EvW.fieldAddr0; exact rfl; exact FldC.eq)))
    (apply Par.quiet _ [true, false]; exact rfl; decide +kernel; exact rfl; intro R; refine ⟨_, (by repeat constructor), ?_⟩;
         (first | (apply EvW.fieldAddr0; exact rfl; exact FldC.eq)))
    (apply Par.quiet _ [true, false]; exact rfl; decide +kernel; exact rfl; intro R; refine ⟨_, (by repeat constructor), ?_⟩;
         (first | (apply EvW.load; exact rfl; exact ScalC.eq; (focus ((repeat constructor); done)); exact rfl)))
    (apply Par.quiet _ [true, false]; exact rfl; decide +kernel; exact rfl; intro R; refine ⟨_, (by repeat constructor), ?_⟩;
         (first | (apply EvW.lenRow; exact rfl; exact UndC.eq; assumption)))
    (apply Par.quiet _ [true, false]; exact rfl; decide +kernel; exact rfl; intro R; refine ⟨_, (by repeat constructor), ?_⟩;
         (first | (apply EvW.build; exact PlC.eq; exact ZvC.eq; exact rfl; exact rfl; (focus ((repeat (first | exact Fills.nil | (apply Fills.cons; exact rfl; (first | assumption | exact rfl); exact rfl) | exact SetMany.nil | apply SetMany.cons | apply SetMany.succ)); done)))))
    (apply Par.quiet _ [true, false]; exact rfl; decide +kernel; exact rfl; intro R; refine ⟨_, (by repeat constructor), ?_⟩;
         (first | (apply EvW.move; exact rfl)))
    (apply Par.quiet _ [true, false]; exact rfl; decide +kernel; exact rfl; intro R; refine ⟨_, (by repeat constructor), ?_⟩;
         (first | (apply EvW.nilPtr; exact rfl)))
    (apply Par.quiet _ [true, false]; exact rfl; decide +kernel; exact rfl; intro R; refine ⟨_, (by repeat constructor), ?_⟩;
         (first | (apply EvW.fieldAddr0; exact rfl; exact FldC.eq)))
    (apply Par.quiet _ [true, false]; exact rfl; decide +kernel; exact rfl; intro R; refine ⟨_, (by repeat constructor), ?_⟩;
         (first | (apply EvW.fieldAddr0; exact rfl; exact FldC.eq)))
    (apply Par.quiet _ [true, false]; exact rfl; decide +kernel; exact rfl; intro R; refine ⟨_, (by repeat constructor), ?_⟩;
         (first | (apply EvW.load; exact rfl; exact ScalC.eq; (focus ((repeat constructor); done)); exact rfl)))
    (apply Par.quiet _ [true, false]; exact rfl; decide +kernel; exact rfl; intro R; refine ⟨_, (by repeat constructor), ?_⟩;
         (first | (apply EvW.lenRow; exact rfl; exact UndC.eq; assumption)))
    (apply Par.quiet _ [true, false]; exact rfl; decide +kernel; exact rfl; intro R; refine ⟨_, (by repeat constructor), ?_⟩;
         (first | (apply EvW.build; exact PlC.eq; exact ZvC.eq; exact rfl; exact rfl; (focus ((repeat (first | exact Fills.nil | (apply Fills.cons; exact rfl; (first | assumption | exact rfl); exact rfl) | exact SetMany.nil | apply SetMany.cons | apply SetMany.succ)); done)))))
    (apply Par.new _ [false, false] [false, true] [true, false]; exact rfl; exact rfl; decide +kernel; intro R; refine ⟨_, _, _, (by repeat constructor), (by repeat constructor), (fun x => (by repeat constructor)), ?_⟩; (apply NewW.buildSlice; exact UndC.eq; exact SzC.eq; exact ZvC.eq; exact rfl; exact rfl; exact rfl; (focus ((repeat (first | exact Flat.nil | (apply Flat.one; (first | exact rfl | assumption)) | (apply Flat.cons; exact rfl; exact rfl))); done)); exact rfl; exact rfl; exact fun _ => rfl))
    (apply Par.quiet _ [true, true]; exact rfl; decide +kernel; exact rfl; intro R; refine ⟨_, (by repeat constructor), ?_⟩;
         (first | (apply EvW.assign; exact rfl)))
    exact Par.nil
  · repeat (first | exact AllN.nil | (apply AllN.cons; (intro c x; (repeat (first | exact IndA.nil | (apply IndA.skip; decide +kernel) | apply IndA.same))))) 
  · repeat (first | exact AllN.nil | (apply AllN.cons; (intro c x; (repeat (first | exact IndT.nil | (apply IndT.skip; decide +kernel) | apply IndT.same))))) 
  · exact fun _ => rfl
  intro c
  refine ⟨_, (by repeat constructor), ?_⟩
  apply WE.writ
  · (focus ((repeat (first | exact Writ.nil | apply Writ.some | apply Writ.none)); done))
  generalize (c 28).1 = b28
  repeat first
    | refine WE.next ?_ | refine WC.ret ?_
  refine WE.keep (xs := [.blk b28 #[ptr q 0, i64 (h.la.length : Int), i64 1, ptr q 1, i64 (h.lb.length : Int), i64 2, ptr q 2, i64 (h.ly.length : Int), i64 1, ptr q 3, i64 (h.ld.length : Int), i64 1] 141]) (by repeat constructor) ?_
  refine WE.ret1 rfl rfl ?_
  exact ⟨b28, rfl, rfl⟩
end Go.Proofs.Ytamofjpadnnppaa
namespace Go.Proofs.Ytamofjpadnnppaa
open Go.RowKit Go.BK
theorem read4_good {l : List UInt8} {h : Q4} {fv : Value} {q : Nat} {U : TypeId} {w : World} {S : BSet} (k : Tri Try.prog 59 #[str l, i64 1, fv] w S fun u A => (u = i64 3 ∧ A = [] ∧ ¬ sGood h l) ∨ (u = i64 0 ∧ sGood h l ∧ ∃ a b y d : Value, A = [.blk q #[a, b, y, d] U, .own 3 1 (a) (tpart l 1 h.la.length).length ((tpart l 1 h.la.length).map i64), .own 3 1 (b) (tpart l (1 + h.la.length) h.lb.length).length ((tpart l (1 + h.la.length) h.lb.length).map i64), .own 3 1 (y) (tpart l (1 + h.la.length + h.lb.length) h.ly.length).length ((tpart l (1 + h.la.length + h.lb.length) h.ly.length).map i64), .own 3 1 (d) (tpart l (1 + h.la.length + h.lb.length + h.ly.length) h.ld.length).length ((tpart l (1 + h.la.length + h.lb.length + h.ly.length) h.ld.length).map i64)])) (hg : sGood h l) :
    Tri Try.prog 59 #[str l, i64 1, fv] w S fun u A => u = i64 0 ∧ ∃ a b y d : Value, A = [.blk q #[a, b, y, d] U, .own 3 1 (a) (tpart l 1 h.la.length).length ((tpart l 1 h.la.length).map i64), .own 3 1 (b) (tpart l (1 + h.la.length) h.lb.length).length ((tpart l (1 + h.la.length) h.lb.length).map i64), .own 3 1 (y) (tpart l (1 + h.la.length + h.lb.length) h.ly.length).length ((tpart l (1 + h.la.length + h.lb.length) h.ly.length).map i64), .own 3 1 (d) (tpart l (1 + h.la.length + h.lb.length + h.ly.length) h.ld.length).length ((tpart l (1 + h.la.length + h.lb.length + h.ly.length) h.ld.length).map i64)] :=
  k.mono fun _ _ h => h.elim (fun h => absurd hg h.2.2) fun h => ⟨h.1, h.2.2⟩
theorem read4_bad {l : List UInt8} {h : Q4} {fv : Value} {q : Nat} {U : TypeId} {w : World} {S : BSet} (k : Tri Try.prog 59 #[str l, i64 1, fv] w S fun u A => (u = i64 3 ∧ A = [] ∧ ¬ sGood h l) ∨ (u = i64 0 ∧ sGood h l ∧ ∃ a b y d : Value, A = [.blk q #[a, b, y, d] U, .own 3 1 (a) (tpart l 1 h.la.length).length ((tpart l 1 h.la.length).map i64), .own 3 1 (b) (tpart l (1 + h.la.length) h.lb.length).length ((tpart l (1 + h.la.length) h.lb.length).map i64), .own 3 1 (y) (tpart l (1 + h.la.length + h.lb.length) h.ly.length).length ((tpart l (1 + h.la.length + h.lb.length) h.ly.length).map i64), .own 3 1 (d) (tpart l (1 + h.la.length + h.lb.length + h.ly.length) h.ld.length).length ((tpart l (1 + h.la.length + h.lb.length + h.ly.length) h.ld.length).map i64)])) (hg : ¬ sGood h l) :
    Tri Try.prog 59 #[str l, i64 1, fv] w S fun u A => u = i64 3 ∧ A = [] :=
  k.mono fun _ _ h => h.elim (fun h => ⟨h.1, h.2.1⟩) fun h => absurd h.2.1 hg
theorem trstatus_good (h : Q4) (l : List UInt8) (w : World) (S : BSet) (hS : (sepL []).sat S w) (hh : h.Seen w S) (hl : l.length ≤ 140737488355328) (hg : sGood h l) :
    Tri Try.prog 30 #[.agg #[(h).a, (h).b, (h).y, (h).d], str l] w S fun u A => ∃ a b y d : Value, u = .tuple #[.agg #[a, b, y, d], i64 0] ∧ A = [.own 3 1 (a) (tpart l 1 h.la.length).length ((tpart l 1 h.la.length).map i64), .own 3 1 (b) (tpart l (1 + h.la.length) h.lb.length).length ((tpart l (1 + h.la.length) h.lb.length).map i64), .own 3 1 (y) (tpart l (1 + h.la.length + h.lb.length) h.ly.length).length ((tpart l (1 + h.la.length + h.lb.length) h.ly.length).map i64), .own 3 1 (d) (tpart l (1 + h.la.length + h.lb.length + h.ly.length) h.ld.length).length ((tpart l (1 + h.la.length + h.lb.length + h.ly.length) h.ld.length).map i64)] := by
  refine Tri.enter (l := [.agg #[(h).a, (h).b, (h).y, (h).d], str l]) Try.func30 rfl Try.ntmps30 rfl [(0, .agg #[(h).a, (h).b, (h).y, (h).d]), (1, str l)] (subA rfl) hS ?_
  repeat first
    | refine WC.seq ?_ | refine WC.region ?_
  try refine WL.wanted rfl rfl rfl ?_
  (apply WL.box; exact rfl; exact rfl; exact rfl; intro q1)
  skip
  try refine WL.wanted rfl rfl rfl ?_
  (apply WL.alloc; exact rfl; exact ZvC.eq; exact rfl; intro r)
  repeat first
    | (apply WL.q; exact rfl; exact rfl; exact rfl; (first | (apply EvW.assign; exact rfl)))
    | refine WC.seq ?_ | refine WC.region ?_ | refine WL.nil ?_ | refine WE.next ?_
  try refine WL.wanted rfl rfl rfl ?_
  (apply WL.alloc; exact rfl; exact ZvC.eq; exact rfl; intro q)
  repeat first
    | (apply WL.q; exact rfl; exact rfl; exact rfl; (first | (apply EvW.move; exact rfl) | (apply EvW.loadAgg; exact rfl; exact AggC.eq; exact SzC.eq; (focus ((repeat constructor); done)); (focus ((repeat (first | exact SubL.nil | apply SubL.cons | apply SubL.succ)); done)))))
    | refine WC.seq ?_ | refine WC.region ?_ | refine WL.nil ?_ | refine WE.next ?_
  try refine WL.wanted rfl rfl rfl ?_
  apply WL.callA ([])
  · exact rfl
  · exact rfl
  · exact fun w => Try.call60 _ w
  · (focus ((repeat constructor); done))
  · exact fun w1 S1 hS1 hs1 ho1 => status_spec h q w1 S1 hS1 (hh.down hs1)
  rintro _ _ ⟨f, rfl, rfl⟩
  first | refine WL.app4 ?_ | refine WL.app3 ?_ | refine WL.app2 ?_ | refine WL.app1 ?_ | refine WL.app0 ?_ | skip
  skip
  try refine WL.wanted rfl rfl rfl ?_
  apply WL.callA ([.blk q #[.slice none 0 0, .slice none 0 0, .slice none 0 0, .slice none 0 0] 54])
  · exact rfl
  · exact rfl
  · exact fun w => Try.call59 _ w
  · (focus ((repeat constructor); done))
  · exact fun w1 S1 hS1 hs1 ho1 => (read4_good (read4_spec l 1 _ q 54 h.la.length h.lb.length h.ly.length h.ld.length 1 2 1 1 w1 S1 hS1 hl (by decide) ((ho1 (.blk f #[ptr q 0, i64 (h.la.length : Int), i64 1, ptr q 1, i64 (h.lb.length : Int), i64 2, ptr q 2, i64 (h.ly.length : Int), i64 1, ptr q 3, i64 (h.ld.length : Int), i64 1] 141) _ (by repeat constructor)).blkRow rfl (fun k u h => by simpa [flC] using h) (by decide)) hh.na hh.nb hh.ny hh.nd) hg)
  rintro _ _ ⟨rfl, a, b, y, d, rfl⟩
  first | refine WL.app4 ?_ | refine WL.app3 ?_ | refine WL.app2 ?_ | refine WL.app1 ?_ | refine WL.app0 ?_ | skip
  repeat first
    | (apply WL.q; exact rfl; exact rfl; exact rfl; (first | (apply EvW.move; exact rfl) | (apply EvW.assign; exact rfl) | (apply EvW.cmpF; exact rfl; exact rfl; exact rfl; omega) | (apply EvW.loadAgg; exact rfl; exact AggC.eq; exact SzC.eq; (focus ((repeat constructor); done)); (focus ((repeat (first | exact SubL.nil | apply SubL.cons | apply SubL.succ)); done)))))
    | refine WC.seq ?_ | refine WC.region ?_ | refine WL.nil ?_ | refine WE.next ?_ | refine WC.skip ?_ | refine WC.condF rfl ?_
  (first | refine WL.slOwn (v := a) (by repeat constructor) ?_ | refine WC.slOwn (v := a) (by repeat constructor) ?_)
  intro hc_a ho_a
  (first | refine WL.slOwn (v := b) (by repeat constructor) ?_ | refine WC.slOwn (v := b) (by repeat constructor) ?_)
  intro hc_b ho_b
  (first | refine WL.slOwn (v := y) (by repeat constructor) ?_ | refine WC.slOwn (v := y) (by repeat constructor) ?_)
  intro hc_y ho_y
  (first | refine WL.slOwn (v := d) (by repeat constructor) ?_ | refine WC.slOwn (v := d) (by repeat constructor) ?_)
  intro hc_d ho_d
  have hall : ([a, b, y, d] : List Value).all (·.oneCell') = true := by
    simp at ho_a ho_b ho_y ho_d
    simp [ho_a, ho_b, ho_y, ho_d]
  clear hc_a hc_b hc_y hc_d ho_a ho_b ho_y ho_d
  repeat first
    | (apply WL.q; exact rfl; exact rfl; exact rfl; (first | (apply EvW.assign; exact rfl)))
    | refine WL.nil ?_ | refine WE.next ?_ | refine WC.ret ?_ | (apply WL.store; exact rfl; exact rfl; (first | assumption | exact rfl); exact SzC.eq; (first | assumption | exact rfl); (focus ((repeat constructor); done)))
  (apply WE.retC2 (A' := [.own 3 1 (a) (tpart l 1 h.la.length).length ((tpart l 1 h.la.length).map i64), .own 3 1 (b) (tpart l (1 + h.la.length) h.lb.length).length ((tpart l (1 + h.la.length) h.lb.length).map i64), .own 3 1 (y) (tpart l (1 + h.la.length + h.lb.length) h.ly.length).length ((tpart l (1 + h.la.length + h.lb.length) h.ly.length).map i64), .own 3 1 (d) (tpart l (1 + h.la.length + h.lb.length + h.ly.length) h.ld.length).length ((tpart l (1 + h.la.length + h.lb.length + h.ly.length) h.ld.length).map i64)]); exact rfl; exact rfl; exact rfl; (focus ((repeat constructor); done)); exact AggC.eq; exact SzC.eq; exact fun _ h => h.keep (by repeat constructor))
  exact ⟨a, b, y, d, rfl, rfl⟩
theorem trstatus_bad (h : Q4) (l : List UInt8) (w : World) (S : BSet) (hS : (sepL []).sat S w) (hh : h.Seen w S) (hl : l.length ≤ 140737488355328) (hg : ¬ sGood h l) :
    Tri Try.prog 30 #[.agg #[(h).a, (h).b, (h).y, (h).d], str l] w S fun u A => u = .tuple #[.agg #[.slice none 0 0, .slice none 0 0, .slice none 0 0, .slice none 0 0], i64 3] ∧ A = [] := by
  refine Tri.enter (l := [.agg #[(h).a, (h).b, (h).y, (h).d], str l]) Try.func30 rfl Try.ntmps30 rfl [(0, .agg #[(h).a, (h).b, (h).y, (h).d]), (1, str l)] (subA rfl) hS ?_
  repeat first
    | refine WC.seq ?_ | refine WC.region ?_
  try refine WL.wanted rfl rfl rfl ?_
  (apply WL.box; exact rfl; exact rfl; exact rfl; intro q1)
  skip
  try refine WL.wanted rfl rfl rfl ?_
  (apply WL.alloc; exact rfl; exact ZvC.eq; exact rfl; intro r)
  repeat first
    | (apply WL.q; exact rfl; exact rfl; exact rfl; (first | (apply EvW.assign; exact rfl)))
    | refine WC.seq ?_ | refine WC.region ?_ | refine WL.nil ?_ | refine WE.next ?_
  try refine WL.wanted rfl rfl rfl ?_
  (apply WL.alloc; exact rfl; exact ZvC.eq; exact rfl; intro q)
  repeat first
    | (apply WL.q; exact rfl; exact rfl; exact rfl; (first | (apply EvW.move; exact rfl) | (apply EvW.loadAgg; exact rfl; exact AggC.eq; exact SzC.eq; (focus ((repeat constructor); done)); (focus ((repeat (first | exact SubL.nil | apply SubL.cons | apply SubL.succ)); done)))))
    | refine WC.seq ?_ | refine WC.region ?_ | refine WL.nil ?_ | refine WE.next ?_
  try refine WL.wanted rfl rfl rfl ?_
  apply WL.callA ([])
  · exact rfl
  · exact rfl
  · exact fun w => Try.call60 _ w
  · (focus ((repeat constructor); done))
  · exact fun w1 S1 hS1 hs1 ho1 => status_spec h q w1 S1 hS1 (hh.down hs1)
  rintro _ _ ⟨f, rfl, rfl⟩
  first | refine WL.app4 ?_ | refine WL.app3 ?_ | refine WL.app2 ?_ | refine WL.app1 ?_ | refine WL.app0 ?_ | skip
  skip
  try refine WL.wanted rfl rfl rfl ?_
  apply WL.callA ([.blk q #[.slice none 0 0, .slice none 0 0, .slice none 0 0, .slice none 0 0] 54])
  · exact rfl
  · exact rfl
  · exact fun w => Try.call59 _ w
  · (focus ((repeat constructor); done))
  · exact fun w1 S1 hS1 hs1 ho1 => (read4_bad (read4_spec l 1 _ q 54 h.la.length h.lb.length h.ly.length h.ld.length 1 2 1 1 w1 S1 hS1 hl (by decide) ((ho1 (.blk f #[ptr q 0, i64 (h.la.length : Int), i64 1, ptr q 1, i64 (h.lb.length : Int), i64 2, ptr q 2, i64 (h.ly.length : Int), i64 1, ptr q 3, i64 (h.ld.length : Int), i64 1] 141) _ (by repeat constructor)).blkRow rfl (fun k u h => by simpa [flC] using h) (by decide)) hh.na hh.nb hh.ny hh.nd) hg)
  rintro _ _ ⟨rfl, rfl⟩
  first | refine WL.app4 ?_ | refine WL.app3 ?_ | refine WL.app2 ?_ | refine WL.app1 ?_ | refine WL.app0 ?_ | skip
  repeat first
    | (apply WL.q; exact rfl; exact rfl; exact rfl; (first | (apply EvW.move; exact rfl) | (apply EvW.assign; exact rfl) | (apply EvW.cmpT; exact rfl; exact rfl; exact rfl; omega) | (apply EvW.build; exact PlC.eq; exact ZvC.eq; exact rfl; exact rfl; (focus ((repeat (first | exact Fills.nil | (apply Fills.cons; exact rfl; (first | assumption | exact rfl); exact rfl) | exact SetMany.nil | apply SetMany.cons | apply SetMany.succ)); done)))))
    | refine WC.seq ?_ | refine WC.region ?_ | refine WL.nil ?_ | refine WE.next ?_ | refine WC.condT rfl ?_ | refine WC.ret ?_ | refine WE.passRet ?_ | (apply WL.store; exact rfl; exact rfl; (first | assumption | exact rfl); exact SzC.eq; (first | assumption | exact rfl); (focus ((repeat constructor); done)))
  (apply WE.retC2 (A' := []); exact rfl; exact rfl; exact rfl; (focus ((repeat constructor); done)); exact AggC.eq; exact SzC.eq; exact fun _ h => h.keep (by repeat constructor))
  exact ⟨rfl, rfl⟩
end Go.Proofs.Ytamofjpadnnppaa
namespace Go.Proofs.Ytamofjpadnnppaa
open Go.RowKit Go.BK
def PW.rput (m : PW) (b : List UInt8) (r : Bool) : PW := if m.e ≠ 0 then m else if r then (if m.lim - m.out.length < b.length then m.note 2 else m.add b) else m.note 32
theorem rput_true (m : PW) (b : List UInt8) : m.rput b true = m.put b := by
  unfold PW.rput PW.put
  by_cases he : m.e = 0
  · rw [if_neg (by simp [he]), if_pos rfl]; simp [he]
  · rw [if_pos he, if_neg he]
    split
    · simp [PW.note, he]
    · rfl
theorem rput_false (m : PW) (b : List UInt8) : m.rput b false = m.note 32 := by
  unfold PW.rput
  by_cases he : m.e = 0
  · rw [if_neg (by simp [he])]; rfl
  · rw [if_pos he]; simp [PW.note, he]
theorem put_note (m : PW) (b : List UInt8) (c : Int) (hc : c ≠ 0) : (m.note c).put b = m.note c := by
  have he : ¬ (m.note c).e = 0 := by simp only [PW.note]; split <;> assumption
  rw [← rput_true]; unfold PW.rput; rw [if_pos he]
theorem rnew_spec (n : Int) (w : World) (S : BSet) (hS : (sepL []).sat S w) :
    Tri Try.prog 42 #[i64 n] w S fun u A => ∃ b, u = ptr b 0 ∧ A = [.own 5 1 (Value.slice none 0 0) (PW.init n).out.length ((PW.init n).out.map byt), .blk b #[Value.slice none 0 0, i64 (PW.init n).lim, i64 (PW.init n).e] 130] := by
  refine Tri.enter (l := [i64 n]) Try.func42 rfl Try.ntmps42 rfl [(0, i64 n)] (subA rfl) hS ?_
  repeat first
    | (apply WL.q; exact rfl; exact rfl; exact rfl; (first | (apply EvW.move; exact rfl) | (apply EvW.assign; exact rfl) | (apply EvW.max2; exact rfl; exact rfl) | (apply EvW.build; exact PlC.eq; exact ZvC.eq; exact rfl; exact rfl; (focus ((repeat (first | exact Fills.nil | (apply Fills.cons; exact rfl; (first | assumption | exact rfl); exact rfl) | exact SetMany.nil | apply SetMany.cons | apply SetMany.succ)); done)))))
    | refine WC.seq ?_ | refine WC.region ?_ | refine WL.nil ?_ | refine WE.next ?_ | refine WC.skip ?_ | refine WC.exit ?_ | refine WE.pass ?_ | refine WE.hit ?_ | refine WE.miss rfl ?_ | refine WE.out ?_ | refine WC.ret ?_ | refine WE.passRet ?_ | refine WE.outRet ?_ | refine WL.wanted rfl rfl rfl ?_
  try refine WL.wanted rfl rfl rfl ?_
  (apply WL.box; exact rfl; exact rfl; exact rfl; intro b)
  refine WL.ownNil 5 1 ?_
  repeat first
    | (apply WL.q; exact rfl; exact rfl; exact rfl; (first | (apply EvW.move; exact rfl) | (apply EvW.assign; exact rfl) | (apply EvW.max2; exact rfl; exact rfl) | (apply EvW.build; exact PlC.eq; exact ZvC.eq; exact rfl; exact rfl; (focus ((repeat (first | exact Fills.nil | (apply Fills.cons; exact rfl; (first | assumption | exact rfl); exact rfl) | exact SetMany.nil | apply SetMany.cons | apply SetMany.succ)); done)))))
    | refine WC.seq ?_ | refine WC.region ?_ | refine WL.nil ?_ | refine WE.next ?_ | refine WC.skip ?_ | refine WC.exit ?_ | refine WE.pass ?_ | refine WE.hit ?_ | refine WE.miss rfl ?_ | refine WE.out ?_ | refine WC.ret ?_ | refine WE.passRet ?_ | refine WE.outRet ?_ | refine WL.wanted rfl rfl rfl ?_
  refine WE.ret1 rfl rfl ?_
  exact ⟨b, rfl, rfl⟩
theorem rput_spec (b : Nat) (v pv : Value) (m : PW) (bs : List UInt8) (r : Bool) (w : World) (S : BSet) (hS : (sepL [.own 5 1 (v) (m).out.length ((m).out.map byt), .blk b #[v, i64 (m).lim, i64 (m).e] 130]).sat S w)
    (hb : Sees w S (.row 1 pv bs.length (bs.map byt))) (hr : m.fits bs.length) :
    Tri Try.prog 65 #[ptr b 0, pv, .bool r] w S fun u A => u = .tuple #[] ∧ ∃ v', A = [.own 5 1 (v') (m.rput bs r).out.length ((m.rput bs r).out.map byt), .blk b #[v', i64 (m.rput bs r).lim, i64 (m.rput bs r).e] 130] := by
  have hroom := hr.room
  obtain ⟨h0, h1, hr⟩ := hr
  refine Tri.enter (l := [ptr b 0, pv, .bool r]) Try.func65 rfl Try.ntmps65 rfl [(0, ptr b 0), (1, pv), (2, .bool r)] (subA rfl) hS ?_
  by_cases he : m.e = 0
  · cases r with
    | false =>
      have hm : m.rput bs false = m.note 32 := rput_false m bs
      have hn : m.note 32 = ⟨32, m.out, m.lim⟩ := by simp [PW.note, he]
      rw [hm, hn]
      repeat first
        | (apply WL.q; exact rfl; exact rfl; exact rfl; (first | (apply EvW.move; exact rfl) | (apply EvW.nilPtr; exact rfl) | (apply EvW.fieldAddr0; exact rfl; exact FldC.eq) | (apply EvW.fieldAddr; exact rfl; exact FldC.eq) | (apply EvW.load; exact rfl; exact ScalC.eq; (focus ((repeat constructor); done)); exact rfl) | (apply EvW.lenL; exact rfl; exact UndC.eq) | (apply EvW.cmpT; exact rfl; exact rfl; exact rfl; omega) | (apply EvW.cmpF; exact rfl; exact rfl; exact rfl; omega) | (apply EvW.cmp; exact rfl; exact rfl; exact rfl) | (apply EvW.arN; exact rfl; exact rfl; exact rfl; refine i64_in ?_ ?_ <;> omega) | (apply EvW.ar; exact rfl; exact rfl; exact rfl) | (apply EvW.notT; exact rfl) | (apply EvW.notF; exact rfl) | (apply EvW.notP; exact rfl) | (apply EvW.lenRow; exact rfl; exact UndC.eq; assumption) | (apply EvW.lenOwn; exact rfl; exact UndC.eq; (focus ((repeat constructor); done))) | (apply EvW.ldInt; exact rfl; exact ScalC.eq; assumption; omega) | (apply EvW.ldIntOwn; exact rfl; exact ScalC.eq; (focus ((repeat constructor); done)); omega) | (apply EvW.fldRow; exact rfl; exact FldC.eq; assumption; omega) | (apply EvW.fldOwn; exact rfl; exact FldC.eq; (focus ((repeat constructor); done)); omega)))
        | refine WC.seq ?_ | refine WC.region ?_ | refine WL.nil ?_ | refine WE.next ?_ | refine WC.skip ?_ | refine WC.exit ?_ | refine WE.pass ?_ | refine WE.hit ?_ | refine WE.miss rfl ?_ | refine WE.out ?_ | refine WC.condT rfl ?_ | refine WC.condF rfl ?_ | refine WC.ret ?_ | refine WE.passRet ?_ | refine WE.outRet ?_ | refine WL.wanted rfl rfl rfl ?_ | (apply WL.store; exact rfl; exact rfl; (first | assumption | exact rfl); exact SzC.eq; (first | assumption | exact rfl); (focus ((repeat constructor); done)))
      refine WE.keep (xs := [.own 5 1 (v) (PW.mk 32 m.out m.lim).out.length ((PW.mk 32 m.out m.lim).out.map byt), .blk b #[v, i64 (PW.mk 32 m.out m.lim).lim, i64 (PW.mk 32 m.out m.lim).e] 130]) (by repeat constructor) ?_
      first | refine WE.end0 rfl ?_ | refine WE.ret0 rfl ?_
      exact ⟨rfl, v, rfl⟩
    | true =>
      rw [rput_true]
      by_cases h : m.lim - m.out.length < bs.length
      · have hm : m.put bs = ⟨2, m.out, m.lim⟩ := by simp [PW.put, h, PW.note, he]
        rw [hm]
        repeat first
          | (apply WL.q; exact rfl; exact rfl; exact rfl; (first | (apply EvW.move; exact rfl) | (apply EvW.nilPtr; exact rfl) | (apply EvW.fieldAddr0; exact rfl; exact FldC.eq) | (apply EvW.fieldAddr; exact rfl; exact FldC.eq) | (apply EvW.load; exact rfl; exact ScalC.eq; (focus ((repeat constructor); done)); exact rfl) | (apply EvW.lenL; exact rfl; exact UndC.eq) | (apply EvW.cmpT; exact rfl; exact rfl; exact rfl; omega) | (apply EvW.cmpF; exact rfl; exact rfl; exact rfl; omega) | (apply EvW.cmp; exact rfl; exact rfl; exact rfl) | (apply EvW.arN; exact rfl; exact rfl; exact rfl; refine i64_in ?_ ?_ <;> omega) | (apply EvW.ar; exact rfl; exact rfl; exact rfl) | (apply EvW.notT; exact rfl) | (apply EvW.notF; exact rfl) | (apply EvW.notP; exact rfl) | (apply EvW.lenRow; exact rfl; exact UndC.eq; assumption) | (apply EvW.lenOwn; exact rfl; exact UndC.eq; (focus ((repeat constructor); done))) | (apply EvW.ldInt; exact rfl; exact ScalC.eq; assumption; omega) | (apply EvW.ldIntOwn; exact rfl; exact ScalC.eq; (focus ((repeat constructor); done)); omega) | (apply EvW.fldRow; exact rfl; exact FldC.eq; assumption; omega) | (apply EvW.fldOwn; exact rfl; exact FldC.eq; (focus ((repeat constructor); done)); omega)))
          | refine WC.seq ?_ | refine WC.region ?_ | refine WL.nil ?_ | refine WE.next ?_ | refine WC.skip ?_ | refine WC.exit ?_ | refine WE.pass ?_ | refine WE.hit ?_ | refine WE.miss rfl ?_ | refine WE.out ?_ | refine WC.condT rfl ?_ | refine WC.condF rfl ?_ | refine WC.ret ?_ | refine WE.passRet ?_ | refine WE.outRet ?_ | refine WL.wanted rfl rfl rfl ?_ | (apply WL.store; exact rfl; exact rfl; (first | assumption | exact rfl); exact SzC.eq; (first | assumption | exact rfl); (focus ((repeat constructor); done)))
        repeat refine WC.seq ?_
        apply WC.drawQ Try.mixed
        · (focus ((repeat (first | exact Restr.nil | (apply Restr.keep; exact rfl; exact rfl) | (apply Restr.drop; exact rfl))); done))
        · exact rfl
        · decide +kernel
        · decide +kernel
        · repeat first
            | exact Draws.nil
            | (apply Draws.skip; exact rfl; exact rfl)
            | (apply Draws.q0; exact rfl
               (first | (apply EvW.move; exact rfl) | (apply EvW.nilPtr; exact rfl) | (apply EvW.fieldAddr0; exact rfl; exact FldC.eq) | (apply EvW.fieldAddr; exact rfl; exact FldC.eq) | (apply EvW.load; exact rfl; exact ScalC.eq; (focus ((repeat constructor); done)); exact rfl) | (apply EvW.lenL; exact rfl; exact UndC.eq) | (apply EvW.cmpT; exact rfl; exact rfl; exact rfl; omega) | (apply EvW.cmpF; exact rfl; exact rfl; exact rfl; omega) | (apply EvW.cmp; exact rfl; exact rfl; exact rfl) | (apply EvW.arN; exact rfl; exact rfl; exact rfl; refine i64_in ?_ ?_ <;> omega) | (apply EvW.ar; exact rfl; exact rfl; exact rfl) | (apply EvW.notT; exact rfl) | (apply EvW.notF; exact rfl) | (apply EvW.notP; exact rfl) | (apply EvW.lenRow; exact rfl; exact UndC.eq; assumption) | (apply EvW.lenOwn; exact rfl; exact UndC.eq; (focus ((repeat constructor); done))) | (apply EvW.ldInt; exact rfl; exact ScalC.eq; assumption; omega) | (apply EvW.ldIntOwn; exact rfl; exact ScalC.eq; (focus ((repeat constructor); done)); omega) | (apply EvW.fldRow; exact rfl; exact FldC.eq; assumption; omega) | (apply EvW.fldOwn; exact rfl; exact FldC.eq; (focus ((repeat constructor); done)); omega)))
        apply WE.writ
        · (focus ((repeat (first | exact Writ.nil | apply Writ.some | apply Writ.none)); done))
        repeat first
          | (apply WL.q; exact rfl; exact rfl; exact rfl; (first | (apply EvW.move; exact rfl) | (apply EvW.nilPtr; exact rfl) | (apply EvW.fieldAddr0; exact rfl; exact FldC.eq) | (apply EvW.fieldAddr; exact rfl; exact FldC.eq) | (apply EvW.load; exact rfl; exact ScalC.eq; (focus ((repeat constructor); done)); exact rfl) | (apply EvW.lenL; exact rfl; exact UndC.eq) | (apply EvW.cmpT; exact rfl; exact rfl; exact rfl; omega) | (apply EvW.cmpF; exact rfl; exact rfl; exact rfl; omega) | (apply EvW.cmp; exact rfl; exact rfl; exact rfl) | (apply EvW.arN; exact rfl; exact rfl; exact rfl; refine i64_in ?_ ?_ <;> omega) | (apply EvW.ar; exact rfl; exact rfl; exact rfl) | (apply EvW.notT; exact rfl) | (apply EvW.notF; exact rfl) | (apply EvW.notP; exact rfl) | (apply EvW.lenRow; exact rfl; exact UndC.eq; assumption) | (apply EvW.lenOwn; exact rfl; exact UndC.eq; (focus ((repeat constructor); done))) | (apply EvW.ldInt; exact rfl; exact ScalC.eq; assumption; omega) | (apply EvW.ldIntOwn; exact rfl; exact ScalC.eq; (focus ((repeat constructor); done)); omega) | (apply EvW.fldRow; exact rfl; exact FldC.eq; assumption; omega) | (apply EvW.fldOwn; exact rfl; exact FldC.eq; (focus ((repeat constructor); done)); omega)))
          | refine WC.seq ?_ | refine WC.region ?_ | refine WL.nil ?_ | refine WE.next ?_ | refine WC.skip ?_ | refine WC.exit ?_ | refine WE.pass ?_ | refine WE.hit ?_ | refine WE.miss rfl ?_ | refine WE.out ?_ | refine WC.condT rfl ?_ | refine WC.condF rfl ?_ | refine WC.ret ?_ | refine WE.passRet ?_ | refine WE.outRet ?_ | refine WL.wanted rfl rfl rfl ?_ | (apply WL.store; exact rfl; exact rfl; (first | assumption | exact rfl); exact SzC.eq; (first | assumption | exact rfl); (focus ((repeat constructor); done)))
        refine WE.keep (xs := [.own 5 1 (v) (PW.mk 2 m.out m.lim).out.length ((PW.mk 2 m.out m.lim).out.map byt), .blk b #[v, i64 (PW.mk 2 m.out m.lim).lim, i64 (PW.mk 2 m.out m.lim).e] 130]) (by repeat constructor) ?_
        first | refine WE.end0 rfl ?_ | refine WE.ret0 rfl ?_
        exact ⟨rfl, v, rfl⟩
      · have hm : m.put bs = m.add bs := by simp [PW.put, h, he]
        rw [hm]
        repeat first
          | (apply WL.q; exact rfl; exact rfl; exact rfl; (first | (apply EvW.move; exact rfl) | (apply EvW.nilPtr; exact rfl) | (apply EvW.fieldAddr0; exact rfl; exact FldC.eq) | (apply EvW.fieldAddr; exact rfl; exact FldC.eq) | (apply EvW.load; exact rfl; exact ScalC.eq; (focus ((repeat constructor); done)); exact rfl) | (apply EvW.lenL; exact rfl; exact UndC.eq) | (apply EvW.cmpT; exact rfl; exact rfl; exact rfl; omega) | (apply EvW.cmpF; exact rfl; exact rfl; exact rfl; omega) | (apply EvW.cmp; exact rfl; exact rfl; exact rfl) | (apply EvW.arN; exact rfl; exact rfl; exact rfl; refine i64_in ?_ ?_ <;> omega) | (apply EvW.ar; exact rfl; exact rfl; exact rfl) | (apply EvW.notT; exact rfl) | (apply EvW.notF; exact rfl) | (apply EvW.notP; exact rfl) | (apply EvW.lenRow; exact rfl; exact UndC.eq; assumption) | (apply EvW.lenOwn; exact rfl; exact UndC.eq; (focus ((repeat constructor); done))) | (apply EvW.ldInt; exact rfl; exact ScalC.eq; assumption; omega) | (apply EvW.ldIntOwn; exact rfl; exact ScalC.eq; (focus ((repeat constructor); done)); omega) | (apply EvW.fldRow; exact rfl; exact FldC.eq; assumption; omega) | (apply EvW.fldOwn; exact rfl; exact FldC.eq; (focus ((repeat constructor); done)); omega)))
          | refine WC.seq ?_ | refine WC.region ?_ | refine WL.nil ?_ | refine WE.next ?_ | refine WC.skip ?_ | refine WC.exit ?_ | refine WE.pass ?_ | refine WE.hit ?_ | refine WE.miss rfl ?_ | refine WE.out ?_ | refine WC.condT rfl ?_ | refine WC.condF rfl ?_ | refine WC.ret ?_ | refine WE.passRet ?_ | refine WE.outRet ?_ | refine WL.wanted rfl rfl rfl ?_ | (apply WL.store; exact rfl; exact rfl; (first | assumption | exact rfl); exact SzC.eq; (first | assumption | exact rfl); (focus ((repeat constructor); done)))
        repeat refine WC.seq ?_
        apply WC.drawQ Try.mixed
        · (focus ((repeat (first | exact Restr.nil | (apply Restr.keep; exact rfl; exact rfl) | (apply Restr.drop; exact rfl))); done))
        · exact rfl
        · decide +kernel
        · decide +kernel
        · repeat first
            | exact Draws.nil
            | (apply Draws.skip; exact rfl; exact rfl)
            | (apply Draws.q0; exact rfl
               (first | (apply EvW.move; exact rfl) | (apply EvW.nilPtr; exact rfl) | (apply EvW.fieldAddr0; exact rfl; exact FldC.eq) | (apply EvW.fieldAddr; exact rfl; exact FldC.eq) | (apply EvW.load; exact rfl; exact ScalC.eq; (focus ((repeat constructor); done)); exact rfl) | (apply EvW.lenL; exact rfl; exact UndC.eq) | (apply EvW.cmpT; exact rfl; exact rfl; exact rfl; omega) | (apply EvW.cmpF; exact rfl; exact rfl; exact rfl; omega) | (apply EvW.cmp; exact rfl; exact rfl; exact rfl) | (apply EvW.arN; exact rfl; exact rfl; exact rfl; refine i64_in ?_ ?_ <;> omega) | (apply EvW.ar; exact rfl; exact rfl; exact rfl) | (apply EvW.notT; exact rfl) | (apply EvW.notF; exact rfl) | (apply EvW.notP; exact rfl) | (apply EvW.lenRow; exact rfl; exact UndC.eq; assumption) | (apply EvW.lenOwn; exact rfl; exact UndC.eq; (focus ((repeat constructor); done))) | (apply EvW.ldInt; exact rfl; exact ScalC.eq; assumption; omega) | (apply EvW.ldIntOwn; exact rfl; exact ScalC.eq; (focus ((repeat constructor); done)); omega) | (apply EvW.fldRow; exact rfl; exact FldC.eq; assumption; omega) | (apply EvW.fldOwn; exact rfl; exact FldC.eq; (focus ((repeat constructor); done)); omega)))
        apply WE.writ
        · (focus ((repeat (first | exact Writ.nil | apply Writ.some | apply Writ.none)); done))
        repeat first
          | (apply WL.q; exact rfl; exact rfl; exact rfl; (first | (apply EvW.move; exact rfl) | (apply EvW.nilPtr; exact rfl) | (apply EvW.fieldAddr0; exact rfl; exact FldC.eq) | (apply EvW.fieldAddr; exact rfl; exact FldC.eq) | (apply EvW.load; exact rfl; exact ScalC.eq; (focus ((repeat constructor); done)); exact rfl) | (apply EvW.lenL; exact rfl; exact UndC.eq) | (apply EvW.cmpT; exact rfl; exact rfl; exact rfl; omega) | (apply EvW.cmpF; exact rfl; exact rfl; exact rfl; omega) | (apply EvW.cmp; exact rfl; exact rfl; exact rfl) | (apply EvW.arN; exact rfl; exact rfl; exact rfl; refine i64_in ?_ ?_ <;> omega) | (apply EvW.ar; exact rfl; exact rfl; exact rfl) | (apply EvW.notT; exact rfl) | (apply EvW.notF; exact rfl) | (apply EvW.notP; exact rfl) | (apply EvW.lenRow; exact rfl; exact UndC.eq; assumption) | (apply EvW.lenOwn; exact rfl; exact UndC.eq; (focus ((repeat constructor); done))) | (apply EvW.ldInt; exact rfl; exact ScalC.eq; assumption; omega) | (apply EvW.ldIntOwn; exact rfl; exact ScalC.eq; (focus ((repeat constructor); done)); omega) | (apply EvW.fldRow; exact rfl; exact FldC.eq; assumption; omega) | (apply EvW.fldOwn; exact rfl; exact FldC.eq; (focus ((repeat constructor); done)); omega)))
          | refine WC.seq ?_ | refine WC.region ?_ | refine WL.nil ?_ | refine WE.next ?_ | refine WC.skip ?_ | refine WC.exit ?_ | refine WE.pass ?_ | refine WE.hit ?_ | refine WE.miss rfl ?_ | refine WE.out ?_ | refine WC.condT rfl ?_ | refine WC.condF rfl ?_ | refine WC.ret ?_ | refine WE.passRet ?_ | refine WE.outRet ?_ | refine WL.wanted rfl rfl rfl ?_ | (apply WL.store; exact rfl; exact rfl; (first | assumption | exact rfl); exact SzC.eq; (first | assumption | exact rfl); (focus ((repeat constructor); done)))
        try refine WL.wanted rfl rfl rfl ?_
        (apply WL.append; exact rfl; exact rfl; exact rfl; exact UndC.eq; exact SzC.eq; exact ByC.eq; exact ZvC.eq; exact rfl; (first | exact notInt_sl UndC.eq | exact notInt_st UndC.eq); exact rfl; (focus ((repeat constructor); done)))
        · exact adds_row hb all_one
        · (have := hroom h; omega)
        intro v2
        refine WL.ownEq (cs' := (m.out ++ bs).map byt) (len' := (m.out ++ bs).length) .head (by simp) (by simp) ?_
        (first | refine WL.slOwn (v := v2) (by repeat constructor) ?_ | refine WC.slOwn (v := v2) (by repeat constructor) ?_)
        intro hc_v2 ho_v2
        repeat first
          | (apply WL.q; exact rfl; exact rfl; exact rfl; (first | (apply EvW.move; exact rfl) | (apply EvW.nilPtr; exact rfl) | (apply EvW.fieldAddr0; exact rfl; exact FldC.eq) | (apply EvW.fieldAddr; exact rfl; exact FldC.eq) | (apply EvW.load; exact rfl; exact ScalC.eq; (focus ((repeat constructor); done)); exact rfl) | (apply EvW.lenL; exact rfl; exact UndC.eq) | (apply EvW.cmpT; exact rfl; exact rfl; exact rfl; omega) | (apply EvW.cmpF; exact rfl; exact rfl; exact rfl; omega) | (apply EvW.cmp; exact rfl; exact rfl; exact rfl) | (apply EvW.arN; exact rfl; exact rfl; exact rfl; refine i64_in ?_ ?_ <;> omega) | (apply EvW.ar; exact rfl; exact rfl; exact rfl) | (apply EvW.notT; exact rfl) | (apply EvW.notF; exact rfl) | (apply EvW.notP; exact rfl) | (apply EvW.lenRow; exact rfl; exact UndC.eq; assumption) | (apply EvW.lenOwn; exact rfl; exact UndC.eq; (focus ((repeat constructor); done))) | (apply EvW.ldInt; exact rfl; exact ScalC.eq; assumption; omega) | (apply EvW.ldIntOwn; exact rfl; exact ScalC.eq; (focus ((repeat constructor); done)); omega) | (apply EvW.fldRow; exact rfl; exact FldC.eq; assumption; omega) | (apply EvW.fldOwn; exact rfl; exact FldC.eq; (focus ((repeat constructor); done)); omega)))
          | refine WC.seq ?_ | refine WC.region ?_ | refine WL.nil ?_ | refine WE.next ?_ | refine WC.skip ?_ | refine WC.exit ?_ | refine WE.pass ?_ | refine WE.hit ?_ | refine WE.miss rfl ?_ | refine WE.out ?_ | refine WC.condT rfl ?_ | refine WC.condF rfl ?_ | refine WC.ret ?_ | refine WE.passRet ?_ | refine WE.outRet ?_ | refine WL.wanted rfl rfl rfl ?_ | (apply WL.store; exact rfl; exact rfl; (first | assumption | exact rfl); exact SzC.eq; (first | assumption | exact rfl); (focus ((repeat constructor); done)))
        exact WE.end0 rfl ⟨rfl, v2, rfl⟩
  · have hm : m.rput bs r = m := by unfold PW.rput; rw [if_pos he]
    rw [hm]
    repeat first
      | (apply WL.q; exact rfl; exact rfl; exact rfl; (first | (apply EvW.move; exact rfl) | (apply EvW.nilPtr; exact rfl) | (apply EvW.fieldAddr0; exact rfl; exact FldC.eq) | (apply EvW.fieldAddr; exact rfl; exact FldC.eq) | (apply EvW.load; exact rfl; exact ScalC.eq; (focus ((repeat constructor); done)); exact rfl) | (apply EvW.lenL; exact rfl; exact UndC.eq) | (apply EvW.cmpT; exact rfl; exact rfl; exact rfl; omega) | (apply EvW.cmpF; exact rfl; exact rfl; exact rfl; omega) | (apply EvW.cmp; exact rfl; exact rfl; exact rfl) | (apply EvW.arN; exact rfl; exact rfl; exact rfl; refine i64_in ?_ ?_ <;> omega) | (apply EvW.ar; exact rfl; exact rfl; exact rfl) | (apply EvW.notT; exact rfl) | (apply EvW.notF; exact rfl) | (apply EvW.notP; exact rfl) | (apply EvW.lenRow; exact rfl; exact UndC.eq; assumption) | (apply EvW.lenOwn; exact rfl; exact UndC.eq; (focus ((repeat constructor); done))) | (apply EvW.ldInt; exact rfl; exact ScalC.eq; assumption; omega) | (apply EvW.ldIntOwn; exact rfl; exact ScalC.eq; (focus ((repeat constructor); done)); omega) | (apply EvW.fldRow; exact rfl; exact FldC.eq; assumption; omega) | (apply EvW.fldOwn; exact rfl; exact FldC.eq; (focus ((repeat constructor); done)); omega)))
      | refine WC.seq ?_ | refine WC.region ?_ | refine WL.nil ?_ | refine WE.next ?_ | refine WC.skip ?_ | refine WC.exit ?_ | refine WE.pass ?_ | refine WE.hit ?_ | refine WE.miss rfl ?_ | refine WE.out ?_ | refine WC.condT rfl ?_ | refine WC.condF rfl ?_ | refine WC.ret ?_ | refine WE.passRet ?_ | refine WE.outRet ?_ | refine WL.wanted rfl rfl rfl ?_ | (apply WL.store; exact rfl; exact rfl; (first | assumption | exact rfl); exact SzC.eq; (first | assumption | exact rfl); (focus ((repeat constructor); done)))
    refine WE.keep (xs := [.own 5 1 (v) (m).out.length ((m).out.map byt), .blk b #[v, i64 (m).lim, i64 (m).e] 130]) (by repeat constructor) ?_
    first | refine WE.end0 rfl ?_ | refine WE.ret0 rfl ?_
    exact ⟨rfl, v, rfl⟩
theorem rdone_spec (b : Nat) (v : Value) (m : PW) (w : World) (S : BSet) (hS : (sepL [.own 5 1 (v) (m).out.length ((m).out.map byt), .blk b #[v, i64 (m).lim, i64 (m).e] 130]).sat S w) :
    Tri Try.prog 44 #[ptr b 0] w S fun u A => u = .tuple #[str m.said, i64 m.e] ∧ A = [.own 5 1 (v) (m).out.length ((m).out.map byt), .blk b #[v, i64 (m).lim, i64 (m).e] 130] := by
  refine Tri.enter (l := [ptr b 0]) Try.func44 rfl Try.ntmps44 rfl [(0, ptr b 0)] (subA rfl) hS ?_
  by_cases he : m.e = 0
  · repeat first
      | (apply WL.q; exact rfl; exact rfl; exact rfl; (first | (apply EvW.move; exact rfl) | (apply EvW.assign; exact rfl) | (apply EvW.nilPtr; exact rfl) | (apply EvW.fieldAddr0; exact rfl; exact FldC.eq) | (apply EvW.fieldAddr; exact rfl; exact FldC.eq) | (apply EvW.load; exact rfl; exact ScalC.eq; (focus ((repeat constructor); done)); exact rfl) | (apply EvW.cmpT; exact rfl; exact rfl; exact rfl; omega) | (apply EvW.cmpF; exact rfl; exact rfl; exact rfl; omega) | (apply EvW.cmp; exact rfl; exact rfl; exact rfl) | (apply EvW.strRow; exact rfl; exact UndC.eq; exact UndC.eq; exact UndC.eq; assumption) | (apply EvW.strOwn; exact rfl; exact UndC.eq; exact UndC.eq; exact UndC.eq; (focus ((repeat constructor); done))) | (apply EvW.ldInt; exact rfl; exact ScalC.eq; assumption; omega) | (apply EvW.ldIntOwn; exact rfl; exact ScalC.eq; (focus ((repeat constructor); done)); omega) | (apply EvW.fldRow; exact rfl; exact FldC.eq; assumption; omega) | (apply EvW.fldOwn; exact rfl; exact FldC.eq; (focus ((repeat constructor); done)); omega)))
      | refine WC.seq ?_ | refine WC.region ?_ | refine WL.nil ?_ | refine WE.next ?_ | refine WC.skip ?_ | refine WC.exit ?_ | refine WE.pass ?_ | refine WE.hit ?_ | refine WE.miss rfl ?_ | refine WE.out ?_ | refine WC.condT rfl ?_ | refine WC.condF rfl ?_ | refine WC.ret ?_ | refine WE.passRet ?_ | refine WE.outRet ?_ | refine WL.wanted rfl rfl rfl ?_
    refine WE.ret2 rfl rfl rfl ?_
    exact ⟨by simp [PW.said, he], rfl⟩
  · repeat first
      | (apply WL.q; exact rfl; exact rfl; exact rfl; (first | (apply EvW.move; exact rfl) | (apply EvW.assign; exact rfl) | (apply EvW.nilPtr; exact rfl) | (apply EvW.fieldAddr0; exact rfl; exact FldC.eq) | (apply EvW.fieldAddr; exact rfl; exact FldC.eq) | (apply EvW.load; exact rfl; exact ScalC.eq; (focus ((repeat constructor); done)); exact rfl) | (apply EvW.cmpT; exact rfl; exact rfl; exact rfl; omega) | (apply EvW.cmpF; exact rfl; exact rfl; exact rfl; omega) | (apply EvW.cmp; exact rfl; exact rfl; exact rfl) | (apply EvW.strRow; exact rfl; exact UndC.eq; exact UndC.eq; exact UndC.eq; assumption) | (apply EvW.strOwn; exact rfl; exact UndC.eq; exact UndC.eq; exact UndC.eq; (focus ((repeat constructor); done))) | (apply EvW.ldInt; exact rfl; exact ScalC.eq; assumption; omega) | (apply EvW.ldIntOwn; exact rfl; exact ScalC.eq; (focus ((repeat constructor); done)); omega) | (apply EvW.fldRow; exact rfl; exact FldC.eq; assumption; omega) | (apply EvW.fldOwn; exact rfl; exact FldC.eq; (focus ((repeat constructor); done)); omega)))
      | refine WC.seq ?_ | refine WC.region ?_ | refine WL.nil ?_ | refine WE.next ?_ | refine WC.skip ?_ | refine WC.exit ?_ | refine WE.pass ?_ | refine WE.hit ?_ | refine WE.miss rfl ?_ | refine WE.out ?_ | refine WC.condT rfl ?_ | refine WC.condF rfl ?_ | refine WC.ret ?_ | refine WE.passRet ?_ | refine WE.outRet ?_ | refine WL.wanted rfl rfl rfl ?_
    repeat refine WC.seq ?_
    apply WC.drawQ Try.mixed
    · (focus ((repeat (first | exact Restr.nil | (apply Restr.keep; exact rfl; exact rfl) | (apply Restr.drop; exact rfl))); done))
    · exact rfl
    · decide +kernel
    · decide +kernel
    · repeat first
        | exact Draws.nil
        | (apply Draws.skip; exact rfl; exact rfl)
        | (apply Draws.q0; exact rfl
           (first | (apply EvW.move; exact rfl) | (apply EvW.assign; exact rfl) | (apply EvW.nilPtr; exact rfl) | (apply EvW.fieldAddr0; exact rfl; exact FldC.eq) | (apply EvW.fieldAddr; exact rfl; exact FldC.eq) | (apply EvW.load; exact rfl; exact ScalC.eq; (focus ((repeat constructor); done)); exact rfl) | (apply EvW.cmpT; exact rfl; exact rfl; exact rfl; omega) | (apply EvW.cmpF; exact rfl; exact rfl; exact rfl; omega) | (apply EvW.cmp; exact rfl; exact rfl; exact rfl) | (apply EvW.strRow; exact rfl; exact UndC.eq; exact UndC.eq; exact UndC.eq; assumption) | (apply EvW.strOwn; exact rfl; exact UndC.eq; exact UndC.eq; exact UndC.eq; (focus ((repeat constructor); done))) | (apply EvW.ldInt; exact rfl; exact ScalC.eq; assumption; omega) | (apply EvW.ldIntOwn; exact rfl; exact ScalC.eq; (focus ((repeat constructor); done)); omega) | (apply EvW.fldRow; exact rfl; exact FldC.eq; assumption; omega) | (apply EvW.fldOwn; exact rfl; exact FldC.eq; (focus ((repeat constructor); done)); omega)))
    apply WE.writ
    · (focus ((repeat (first | exact Writ.nil | apply Writ.some | apply Writ.none)); done))
    repeat first
      | (apply WL.q; exact rfl; exact rfl; exact rfl; (first | (apply EvW.move; exact rfl) | (apply EvW.assign; exact rfl) | (apply EvW.nilPtr; exact rfl) | (apply EvW.fieldAddr0; exact rfl; exact FldC.eq) | (apply EvW.fieldAddr; exact rfl; exact FldC.eq) | (apply EvW.load; exact rfl; exact ScalC.eq; (focus ((repeat constructor); done)); exact rfl) | (apply EvW.cmpT; exact rfl; exact rfl; exact rfl; omega) | (apply EvW.cmpF; exact rfl; exact rfl; exact rfl; omega) | (apply EvW.cmp; exact rfl; exact rfl; exact rfl) | (apply EvW.strRow; exact rfl; exact UndC.eq; exact UndC.eq; exact UndC.eq; assumption) | (apply EvW.strOwn; exact rfl; exact UndC.eq; exact UndC.eq; exact UndC.eq; (focus ((repeat constructor); done))) | (apply EvW.ldInt; exact rfl; exact ScalC.eq; assumption; omega) | (apply EvW.ldIntOwn; exact rfl; exact ScalC.eq; (focus ((repeat constructor); done)); omega) | (apply EvW.fldRow; exact rfl; exact FldC.eq; assumption; omega) | (apply EvW.fldOwn; exact rfl; exact FldC.eq; (focus ((repeat constructor); done)); omega)))
      | refine WC.seq ?_ | refine WC.region ?_ | refine WL.nil ?_ | refine WE.next ?_ | refine WC.skip ?_ | refine WC.exit ?_ | refine WE.pass ?_ | refine WE.hit ?_ | refine WE.miss rfl ?_ | refine WE.out ?_ | refine WC.condT rfl ?_ | refine WC.condF rfl ?_ | refine WC.ret ?_ | refine WE.passRet ?_ | refine WE.outRet ?_ | refine WL.wanted rfl rfl rfl ?_
    refine WE.ret2 rfl rfl rfl ?_
    exact ⟨by simp [PW.said, he], rfl⟩
end Go.Proofs.Ytamofjpadnnppaa
namespace Go.Proofs.Ytamofjpadnnppaa
open Go.RowKit Go.BK
theorem num_right (k : Nat) (W : PW) (x : Int) (h0 : 0 ≤ x) (h1 : x < 256 ^ k) : W.num k x = W.put (be k x) := by
  unfold PW.num
  rw [if_neg]
  intro h
  rcases h with h | h
  · omega
  · apply h
    rw [fdiv_two]
    refine Int.ediv_eq_zero_of_lt h0 ?_
    rw [Int.pow_mul]
    exact h1
end Go.Proofs.Ytamofjpadnnppaa
