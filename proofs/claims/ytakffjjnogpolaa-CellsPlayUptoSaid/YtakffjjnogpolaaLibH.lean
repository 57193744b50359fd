/- Structs built, subslices, makes, strings and bytes, and short words for the steps of a region whose order is open. No program in sight. -/
import Derived.Test.YtakffjjnogpolaaLibG
namespace Go.BK
open Go.RowKit

/-- The entries of a frame whose slots aren't among these, each slot once. -/
inductive Restr (ds : List Nat) : List Nat → Fr → Fr → Prop
  | nil {seen : List Nat} : Restr ds seen [] []
  | keep {seen : List Nat} {t : Nat} {v : Value} {r r' : Fr} : ds.contains t = false → seen.contains t = false → Restr ds (t :: seen) r r' → Restr ds seen ((t, v) :: r) ((t, v) :: r')
  | drop {seen : List Nat} {t : Nat} {v : Value} {r r' : Fr} : (ds.contains t || seen.contains t) = true → Restr ds seen r r' → Restr ds seen ((t, v) :: r) r'
theorem Restr.get {ds seen : List Nat} {F F' : Fr} (h : Restr ds seen F F') : ∀ t v, seen.contains t = false → F'.get t = some v → F.get t = some v := by
  induction h with
  | nil => intro t v _ h; exact h
  | @keep seen s u r r' _ h2 _ ih =>
    intro t v hs hv
    simp only [Fr.get] at hv ⊢
    by_cases e : s = t
    · subst e; simpa using hv
    · rw [beqF e] at hv ⊢
      exact ih t v (by simp at hs ⊢; exact ⟨fun h => e h.symm, hs⟩) hv
  | @drop seen s u r r' h1 hr ih =>
    intro t v hs hv
    have h2 := ih t v hs hv
    simp only [Fr.get]
    by_cases e : s = t
    · subst e
      exfalso
      have hns : ds.contains s = true := by
        cases hd : ds.contains s with
        | true => rfl
        | false => rw [hd, hs] at h1; simp at h1
      have key : ∀ {seen : List Nat} {F F' : Fr}, Restr ds seen F F' → F'.get s = none := by
        intro seen F F' h
        induction h with
        | nil => rfl
        | @keep _ t' _ _ _ h9 _ _ ih =>
          simp only [Fr.get]
          have : t' ≠ s := fun e => by subst e; exact Bool.false_ne_true (h9.symm.trans hns)
          rw [beqF this]; exact ih
        | drop _ _ ih => exact ih
      rw [key hr] at hv; cases hv
    · rw [beqF e]; exact h2
def dsts (ops : List Oper) : List Nat := ops.filterMap (·.dst)
def avL (l : List (List HP)) (m : Nat) : List HP := l.getD m []

section
variable {P : Program} {w0 : World} {S0 : BSet} {n : Nat} {ops : List Oper} {F F0 : Fr} {A : List HP} {Q : Exit → Act → World → Prop}
theorem WC.sub' {c : Code} {F' : Fr} (s : ∀ t v, F'.get t = some v → F.get t = some v) (h : WC P w0 S0 n c Q F' A) : WC P w0 S0 n c Q F A := ⟨fun a w ha hs => h.go a w ⟨ha.defers, ha.size, fun t v ht => ha.get t v (s t v ht)⟩ hs⟩
theorem Sub.refl' {F : Fr} {seen : List Nat} {ds : List Nat} {G : Fr} (h : Restr ds seen G F) : ∀ F2, (∀ t v, F.get t = some v → F2.get t = some v) → Sub F F2 := by
  induction h with
  | nil => intro _ _; trivial
  | @keep seen t v r r' h1 h2 hr ih =>
    intro F2 h
    refine ⟨h t v (by simp [Fr.get]), ih F2 fun s u hs => h s u ?_⟩
    simp only [Fr.get]
    by_cases e : t = s
    · subst e
      exfalso
      have key : ∀ {seen : List Nat} {G F : Fr}, Restr ds seen G F → seen.contains t = true → F.get t = none := by
        intro seen G F h
        induction h with
        | nil => intro _; rfl
        | @keep _ t' _ _ _ _ h9 _ ih =>
          intro hs
          simp only [Fr.get]
          have : t' ≠ t := fun e => by subst e; exact Bool.false_ne_true (h9.symm.trans hs)
          rw [beqF this]; exact ih (by simp at hs ⊢; exact .inr hs)
        | drop _ _ ih => exact ih
      rw [key hr (by simp)] at hs; cases hs
    · rw [beqF e]; exact hs
  | drop _ _ ih => exact ih
/-- A region that only reads. -/
theorem WC.drawQ {id : Nat} {all : Done} (hmix : P.follows .mixedOrders = true) (hr : Restr (dsts ops) [] F F0) (hslots : slotsOk F0 ops [] = true) (hdst : ops.all (fun o => o.dst.all fun d => Nat.blt d n) = true) (hedge : edgesAll 0 ops = true)
    (hd : Draws P w0 S0 n ops F0 (fun _ => A) [] 0 [] ops all) (h : WE w0 S0 n Q .normal (allF F0 all) A) : WC P w0 S0 n (.region id ops.toArray true) Q F A :=
  .draw F0 (fun _ => A) [] hmix (Sub.refl' hr F fun t v h => hr.get t v rfl h) rfl hslots hdst rfl rfl hedge hd h
/-- A region with steps that turn memory, one behind the other. -/
theorem WC.drawE {id : Nat} {all : Done} (Al : List (List HP)) (eff : List Nat) (hmix : P.follows .mixedOrders = true) (hr : Restr (dsts ops) [] F F0) (hA : avL Al 0 = A) (hslots : slotsOk F0 ops [] = true) (hdst : ops.all (fun o => o.dst.all fun d => Nat.blt d n) = true)
    (hchain : chainOk ops eff = true) (heff : eff.all (fun e => Nat.blt e ops.length) = true) (hedge : edgesAll 0 ops = true)
    (hd : Draws P w0 S0 n ops F0 (avL Al) eff 0 [] ops all) (h : WE w0 S0 n Q .normal (allF F0 all) (avL Al eff.length)) : WC P w0 S0 n (.region id ops.toArray true) Q F A :=
  .draw F0 (avL Al) eff hmix (Sub.refl' hr F fun t v h => hr.get t v rfl h) hA hslots hdst hchain heff hedge hd h
theorem WE.frame {e : Exit} {F' : Fr} (s : F = F') (h : WE w0 S0 n Q e F' A) : WE w0 S0 n Q e F A := by subst s; exact h
/-- The frame behind a region, written out. -/
inductive Writ : Fr → Done → Fr → Prop
  | nil {F0 : Fr} : Writ F0 [] F0
  | some {F0 F' : Fr} {d : Nat} {op : Op} {T : TypeId} {pos : String} {af : Array Edge} {g : Option (Nat × Bool)} {v : Value} {r : Done} : Writ F0 r F' → Writ F0 ((⟨some d, op, T, pos, af, g⟩, v) :: r) ((d, v) :: F')
  | none {F0 F' : Fr} {op : Op} {T : TypeId} {pos : String} {af : Array Edge} {g : Option (Nat × Bool)} {v : Value} {r : Done} : Writ F0 r F' → Writ F0 ((⟨none, op, T, pos, af, g⟩, v) :: r) F'
theorem Writ.eq {F0 F' : Fr} {all : Done} (h : Writ F0 all F') : allF F0 all = F' := by
  induction h with
  | nil => rfl
  | some _ ih => simp [allF, Done.frO, ih]
  | none _ ih => simp [allF, Done.frO, ih]
theorem WE.writ {e : Exit} {all : Done} {F' : Fr} (s : Writ F0 all F') (h : WE w0 S0 n Q e F' A) : WE w0 S0 n Q e (allF F0 all) A := by rw [s.eq]; exact h
variable {done all : Done} {o : Oper} {v : Value} {rest : List Oper} {eff : List Nat} {Av : Nat → List HP}
theorem Draws.q0 {i : Nat} (hw : wantR done i o.guard = some true) (h : EvW P w0 S0 n (preR F0 done i (aft o)) A o v) (k : Draws P w0 S0 n ops F0 (fun _ => A) [] (i + 1) ((o, v) :: done) rest all) : Draws P w0 S0 n ops F0 (fun _ => A) [] i done (o :: rest) all :=
  .quiet v 0 0 hw rfl (fun _ _ _ => h) k
theorem Draws.at {i : Nat} (m : Nat) (hw : wantR done i o.guard = some true) (hr : rangeOk ops eff i m m = true)
    (h : EvW P w0 S0 n (preR F0 done i (aft o)) (Av m) o v) (k : Draws P w0 S0 n ops F0 Av eff (i + 1) ((o, v) :: done) rest all) : Draws P w0 S0 n ops F0 Av eff i done (o :: rest) all :=
  .quiet v m m hw hr (fun m' h1 h2 => by have : m' = m := by omega
                                         subst this; exact h) k
theorem Draws.two {i : Nat} (m : Nat) (hw : wantR done i o.guard = some true) (hr : rangeOk ops eff i m (m + 1) = true)
    (h : EvW P w0 S0 n (preR F0 done i (aft o)) (Av m) o v) (h' : EvW P w0 S0 n (preR F0 done i (aft o)) (Av (m + 1)) o v) (k : Draws P w0 S0 n ops F0 Av eff (i + 1) ((o, v) :: done) rest all) : Draws P w0 S0 n ops F0 Av eff i done (o :: rest) all :=
  .quiet v m (m + 1) hw hr (fun m' h1 h2 => by
    rcases (by omega : m' = m ∨ m' = m + 1) with e | e
    · subst e; exact h
    · subst e; exact h') k
theorem Draws.three {i : Nat} (m : Nat) (hw : wantR done i o.guard = some true) (hr : rangeOk ops eff i m (m + 2) = true)
    (h : EvW P w0 S0 n (preR F0 done i (aft o)) (Av m) o v) (h' : EvW P w0 S0 n (preR F0 done i (aft o)) (Av (m + 1)) o v) (h'' : EvW P w0 S0 n (preR F0 done i (aft o)) (Av (m + 2)) o v) (k : Draws P w0 S0 n ops F0 Av eff (i + 1) ((o, v) :: done) rest all) : Draws P w0 S0 n ops F0 Av eff i done (o :: rest) all :=
  .quiet v m (m + 2) hw hr (fun m' h1 h2 => by
    rcases (by omega : m' = m ∨ m' = m + 1 ∨ m' = m + 2) with e | e | e
    · subst e; exact h
    · subst e; exact h'
    · subst e; exact h'') k
end

/-- A struct's cells, field by field. -/
inductive Fills (pl : Nat → Option (Nat × Nat)) : List Value → List (Nat × Value) → List Value → Prop
  | nil {c : List Value} : Fills pl c [] c
  | cons {c c' out cs : List Value} {i off sz : Nat} {v : Value} {r : List (Nat × Value)} : pl i = some (off, sz) → v.cells = cs.toArray → cs.length = sz → SetMany c off cs c' → Fills pl c' r out → Fills pl c ((i, v) :: r) out
theorem Fills.fill {pl : Nat → Option (Nat × Nat)} {c out : List Value} {ps : List (Nat × Value)} (h : Fills pl c ps out) : Instr.fill pl c.toArray ps = some out.toArray := by
  induction h with
  | nil => rfl
  | @cons c c' out cs i off sz v r h1 h2 h3 h4 _ ih =>
    obtain ⟨h5, h6⟩ := h4.eq
    simp only [Instr.fill, h1, h2, List.size_toArray, h3, ne_eq, not_true_eq_false, decide_false, Bool.false_or, decide_eq_true_eq]
    rw [if_neg (by omega)]
    have hz : (cs.toArray.zipIdx.foldl (fun (a : Array Value) (x : Value × Nat) => match x with | (c, j) => a.setIfInBounds (off + j) c) c.toArray) = (over c off cs).toArray := by
      have := foldl_set cs off 0 c (by omega)
      simpa using this
    rw [hz]
    have : over c off cs = c' := h6.symm
    rw [this]; exact ih
def placesOf (pl : List (Nat × Nat)) (i : Nat) : Option (Nat × Nat) := pl[i]?
theorem runPlaces {P : Program} {w : World} (l : List Field) (h : (l.all fun f => (szB P f.type).isSome) = true) : (l.mapM fun f => do pure (f.offset, ← sizeOf f.type) : Sem _).run P w = .ok (l.map fun f => (f.offset, (szB P f.type).getD 0)) w := by
  induction l with
  | nil => rfl
  | cons f r ih =>
    simp only [List.all_cons, Bool.and_eq_true] at h
    obtain ⟨k, hk⟩ := Option.isSome_iff_exists.1 h.1
    have := ih h.2
    simp at this
    simp [List.mapM_cons, runSz hk, this, hk]

section
variable {P : Program} {w0 : World} {S0 : BSet} {n : Nat} {F : Fr} {A r : List HP} {ops : Array Oper} {Q : Exit → Act → World → Prop} {rest : List Oper} {d : Nat} {T : TypeId} {pos : String} {af : Array Edge} {x y : Operand} {v u : Value} {t ty e : TypeId} {k : IntKind} {a b : Int} {cs ys : List Value} {bl o sz len m : Nat}
  {dd : Option Tmp} {g : Option (Nat × Bool)}
theorem EvW.build {pl : List (Nat × Nat)} {z : Value} {Z out vs : List Value} {parts : List (Nat × Operand)} (hpl : structB P t = some pl) (hz : zvB P t = some z) (hzc : z.cells = Z.toArray) (hv : evs F (parts.map (·.2)) = some vs)
    (hf : Fills (placesOf pl) Z ((parts.map (·.1)).zip vs) out) : EvW P w0 S0 n F A ⟨dd, .build t parts.toArray, T, pos, af, g⟩ (.agg out.toArray) :=
  .pure fun a' w ha _ => by
    have hvals : ∀ (l : List (Nat × Operand)) (vs : List Value), evs F (l.map (·.2)) = some vs → l.map (fun p => (p.1, a'.eval p.2)) = (l.map (·.1)).zip vs := by
      intro l
      induction l with
      | nil => intro vs h; simp [evs] at h; simp [h]
      | cons p r ih =>
        intro vs h
        simp only [List.map_cons, evs] at h
        cases ht : ev F p.2 with
        | none => simp [ht] at h
        | some u =>
          cases hr : evs F (r.map (·.2)) with
          | none => simp [ht, hr] at h
          | some us => simp [ht, hr] at h; subst h; simp [ha.eval ht, ih us hr]
    have hfill := hf.fill
    rw [← hvals parts vs hv] at hfill
    unfold structB at hpl
    split at hpl
    · rename_i fs hu
      split at hpl
      · rename_i hsz
        simp only [Option.some.injEq] at hpl
        have hpm : (fs.mapM fun f => do Pure.pure (f.offset, ← sizeOf f.type) : Sem _).run P w = .ok pl.toArray w := by
          have := runPlaces (P := P) (w := w) fs.toList hsz
          rw [Array.mapM_eq_mapM_toList]
          simp at this
          simp [this, ← hpl]
        have hplf : (fun i => (pl.toArray : Array (Nat × Nat))[i]?) = placesOf pl := by
          funext i; simp [placesOf]
        simp only [execOp, Instr.build, Sem.run_bind, runZv hz, Result.andThen, hzc, run_underlying hu, hpm]
        rw [hplf]
        simp [hfill]
      · cases hpl
    · cases hpl

/-- A piece of a slice. -/
def subSl (sz lo hi : Nat) : Value → Value
  | .slice p _ cap => .slice (if cap = lo then p else p.map (·.add (lo * sz))) (hi - lo) (cap - lo)
  | v => v
theorem Sees.subRow {w : World} {S : BSet} {lo hi : Nat} (h : Sees w S (.row sz v len cs)) (h1 : lo ≤ hi) (h2 : hi ≤ len) : Sees w S (.row sz (subSl sz lo hi v) (hi - lo) ((cs.take (hi * sz)).drop (lo * sz))) := by
  refine h.mono fun R hR => ?_
  obtain ⟨hl, h⟩ := hR
  have hlen : ((cs.take (hi * sz)).drop (lo * sz)).length = (hi - lo) * sz := by
    simp only [List.length_drop, List.length_take, hl]
    rw [Nat.min_eq_left (Nat.mul_le_mul_right _ h2), Nat.sub_mul]
  refine ⟨hlen, ?_⟩
  rcases h with ⟨p, cap, h3, h4, h5⟩ | ⟨b, off, cap, c, U, fr, h3, h4, h5, h6, h7⟩
  · subst h3; subst h4
    have : hi = 0 := by omega
    subst this
    have : lo = 0 := by omega
    subst this
    exact .inl ⟨_, _, rfl, rfl, h5⟩
  · subst h3
    refine .inr ⟨b, (if cap = lo then off else off + lo * sz), cap - lo, c, U, fr, ?_, h4, h5, fun k u hk => ?_, by omega⟩
    · simp only [subSl]
      split
      · rfl
      · simp [add_at]
    · have hk1 := (List.getElem?_eq_some_iff.1 hk).1
      rw [hlen] at hk1
      rw [List.getElem?_drop, List.getElem?_take] at hk
      split at hk
      · have := h6 _ _ hk
        split
        · rename_i e
          exfalso
          have : hi - lo = 0 := by omega
          rw [this] at hk1; simp at hk1
        · rw [Nat.add_assoc]; exact this
      · cases hk
theorem runSliceL {w : World} {p : Option Addr} {cap lo hi : Nat} (hu : P.underlying t = some (.slice e)) (hz : szB P e = some sz) (h1 : lo ≤ hi) (h2 : hi ≤ cap) {ol oh : Option Value} {k1 k2 : IntKind}
    (hol : ol = some (.int k1 lo) ∨ ol = none ∧ lo = 0) (hoh : oh = some (.int k2 hi) ∨ oh = none ∧ hi = len) : (Instr.sliceAt t (.slice p len cap) ol oh none).run P w = .ok (subSl sz lo hi (.slice p len cap)) w := by
  have e1 : (Instr.sliceBound (.int k2 hi) cap .sliceAcap).run P w = .ok hi w := by
    have := runBound (P := P) (w := w) (k := k2) (i := hi) (m := cap) (code := .sliceAcap) (by omega) (by omega)
    simp only [Instr.sliceBound, asIntOf] at this ⊢
    simpa using this
  have e2 : (Instr.sliceBound (.int k1 lo) hi .sliceB).run P w = .ok lo w := by
    have := runBound (P := P) (w := w) (k := k1) (i := lo) (m := hi) (code := .sliceB) (by omega) (by omega)
    simp only [Instr.sliceBound, asIntOf] at this ⊢
    simpa using this
  rcases hol with rfl | ⟨rfl, rfl⟩ <;> rcases hoh with rfl | ⟨rfl, rfl⟩ <;> simp [Instr.sliceAt, Instr.slice, Instr.sliceBounds, run_underlying hu, e1, e2, runSz hz, subSl]
theorem EvW.sliceRow {lo hi : Operand} {k1 k2 : IntKind} (hx : ev F x = some v) (hB : Sees w0 S0 (.row sz v len cs)) (hu : P.underlying t = some (.slice e)) (hz : szB P e = some sz) (hlo : ev F lo = some (.int k1 a)) (hhi : ev F hi = some (.int k2 b)) (h0 : 0 ≤ a) (h1 : a ≤ b) (h2 : b ≤ len) :
    EvW P w0 S0 n F A ⟨dd, .slice t x (some lo) (some hi) none, T, pos, af, g⟩ (subSl sz a.toNat b.toNat v) :=
  .pure fun a' w ha _ => by
    obtain ⟨a, rfl⟩ := Int.eq_ofNat_of_zero_le h0
    obtain ⟨b, rfl⟩ := Int.eq_ofNat_of_zero_le (Int.le_trans h0 h1)
    rcases hB.row_shape with ⟨p, cap, h3, h4, _⟩ | ⟨b', off, cap, h3, _, h5⟩
    · subst h3; subst h4
      simp [execOp, ha.eval hx, ha.eval hlo, ha.eval hhi, runSliceL (len := 0) (p := p) (w := w) (cap := cap) (lo := a) (hi := b) hu hz (by omega) (by omega) (.inl rfl) (.inl rfl)]
    · subst h3
      simp [execOp, ha.eval hx, ha.eval hlo, ha.eval hhi, runSliceL (len := len) (p := some ⟨b', off, none⟩) (w := w) (cap := cap) (lo := a) (hi := b) hu hz (by omega) (by omega) (.inl rfl) (.inl rfl)]
theorem EvW.sliceRow_lo {lo : Operand} {k1 : IntKind} (hx : ev F x = some v) (hB : Sees w0 S0 (.row sz v len cs)) (hu : P.underlying t = some (.slice e)) (hz : szB P e = some sz) (hlo : ev F lo = some (.int k1 a)) (h0 : 0 ≤ a) (h1 : a ≤ len) :
    EvW P w0 S0 n F A ⟨dd, .slice t x (some lo) none none, T, pos, af, g⟩ (subSl sz a.toNat len v) :=
  .pure fun a' w ha _ => by
    obtain ⟨a, rfl⟩ := Int.eq_ofNat_of_zero_le h0
    rcases hB.row_shape with ⟨p, cap, h3, h4, _⟩ | ⟨b', off, cap, h3, _, h5⟩
    · subst h3; subst h4
      simp [execOp, ha.eval hx, ha.eval hlo, runSliceL (len := 0) (p := p) (w := w) (cap := cap) (lo := a) (hi := 0) (k2 := .i64) hu hz (by omega) (by omega) (.inl rfl) (.inr ⟨rfl, rfl⟩)]
    · subst h3
      simp [execOp, ha.eval hx, ha.eval hlo, runSliceL (len := len) (p := some ⟨b', off, none⟩) (w := w) (cap := cap) (lo := a) (hi := len) (k2 := .i64) hu hz (by omega) (by omega) (.inl rfl) (.inr ⟨rfl, rfl⟩)]
theorem own_shape {w : World} {S : BSet} (h : (HP.own e sz v len cs).sat S w) : (v = .slice none 0 0 ∧ len = 0 ∧ cs = []) ∨ ∃ b cap, v = .slice (some ⟨b, 0, none⟩) len cap ∧ len ≤ cap := by
  obtain ⟨hl, h⟩ := h
  rcases h with ⟨h1, h2, _⟩ | ⟨b, cap, sp, h1, h2, _⟩
  · subst h2; exact .inl ⟨h1, rfl, by simpa using hl⟩
  · exact .inr ⟨b, cap, h1, h2⟩
theorem EvW.sliceOwn_hi {ee : TypeId} {hi : Operand} {k2 : IntKind} (hx : ev F x = some v) (hu : P.underlying t = some (.slice e)) (hz : szB P e = some sz) (ht : Take (.own ee sz v len cs) A r) (hhi : ev F hi = some (.int k2 b)) (h0 : 0 ≤ b) (h1 : b ≤ len) :
    EvW P w0 S0 n F A ⟨dd, .slice t x none (some hi) none, T, pos, af, g⟩ (subSl sz 0 b.toNat v) :=
  .pure fun a' w ha hst => by
    obtain ⟨S, hS⟩ := hst.take ht
    obtain ⟨b, rfl⟩ := Int.eq_ofNat_of_zero_le h0
    rcases own_shape hS with ⟨h3, h4, _⟩ | ⟨b', cap, h3, h5⟩
    · subst h3; subst h4
      simp [execOp, ha.eval hx, ha.eval hhi, runSliceL (len := 0) (p := none) (w := w) (cap := 0) (lo := 0) (hi := b) (k1 := .i64) hu hz (by omega) (by omega) (.inr ⟨rfl, rfl⟩) (.inl rfl)]
    · subst h3
      simp [execOp, ha.eval hx, ha.eval hhi, runSliceL (len := len) (p := some ⟨b', 0, none⟩) (w := w) (cap := cap) (lo := 0) (hi := b) (k1 := .i64) hu hz (by omega) (by omega) (.inr ⟨rfl, rfl⟩) (.inl rfl)]
/-- The slice of the call's own is parted into nothing and a block. -/
theorem WL.openOwn {ee : TypeId} (ht : Take (.own ee sz v len cs) A r) (h1 : v = .slice none 0 0 → len = 0 → cs = [] → WL P w0 S0 n ops Q rest F r)
    (h2 : ∀ b cap sp, v = .slice (some ⟨b, 0, none⟩) len cap → len ≤ cap → (cs ++ sp).length = cap * sz → cs.length = len * sz → WL P w0 S0 n ops Q rest F (.blk b (cs ++ sp).toArray ee :: r)) : WL P w0 S0 n ops Q rest F A :=
  ⟨fun a w ha hst => by
    obtain ⟨S, hs1, hs2, hs3⟩ := id hst
    obtain ⟨S1, S2, hu, hd, ⟨hl, h⟩, h5⟩ := ht.star hs1
    rcases h with ⟨h3, h4, h6⟩ | ⟨b, cap, sp, h3, h4, h6, h7⟩
    · exact (h1 h3 h4 (by subst h4; simpa using hl)).go a w ha (hst.drop ht)
    · exact (h2 b cap sp h3 h4 h6 hl).go a w ha ⟨S, ⟨S1, S2, hu, hd, h7, h5⟩, hs2, hs3⟩⟩
end
end Go.BK
