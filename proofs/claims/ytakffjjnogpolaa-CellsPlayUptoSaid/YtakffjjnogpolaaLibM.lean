/- Arguments opened: lists of things of any shape. No program in sight. -/
import Derived.Test.YtakffjjnogpolaaLibK
import Derived.Deep.Slices
namespace Go.BK
open Go.RowKit Go.ChangeShapes Go.WideShapes Go.ChangeAt Go.ChangeMaps Go.Deep

section
variable {H : Type} {enc : TypeId × Value → H} {P : Program} {W : World}

/-- What is read as type e is f of something of which Q holds. -/
def Opens (enc : TypeId × Value → H) (P : Program) (W : World) (e : TypeId) {α : Type} (f : α → List Value) (Q : α → Prop) : Prop :=
  ∀ n cs x, DataW.trod enc P W 0 (fun _ => true) true n e cs = some x → (∀ k ∈ x.1.weights P e, k ≤ reachBytes) → ∃ a, cs = f a ∧ Q a
theorem Opens.map {e : TypeId} {α β : Type} {f : α → List Value} {Q : α → Prop} {f' : β → List Value} {Q' : β → Prop} (h : Opens enc P W e f Q) (g : α → β) (hf : ∀ a, Q a → f a = f' (g a)) (hQ : ∀ a, Q a → Q' (g a)) : Opens enc P W e f' Q' :=
  fun n cs x hx hw => by
    obtain ⟨a, h1, h2⟩ := h n cs x hx hw
    exact ⟨g a, by rw [h1, hf a h2], hQ a h2⟩
theorem Opens.int {e : TypeId} {k : IntKind} (hu : P.underlying e = some (.int k)) : Opens enc P W e (fun a : Int => [.int k a]) (fun a => (Lit.int k a).wf = true) :=
  fun n cs x hx _ => by
    obtain ⟨a, h1, _, h2⟩ := DataW.trod_int hu hx
    exact ⟨a, h1, h2⟩
theorem Opens.bool {e : TypeId} (hu : P.underlying e = some .bool) : Opens enc P W e (fun a : Bool => [.bool a]) (fun _ => True) :=
  fun n cs x hx _ => by
    obtain ⟨a, h1, _⟩ := DataW.trod_bool hu hx
    exact ⟨a, h1, trivial⟩
theorem Opens.str {e : TypeId} (hu : P.underlying e = some .string) : Opens enc P W e (fun l : List UInt8 => [str l]) (fun l => l.length ≤ 140737488351232) :=
  fun n cs x hx hw => by
    obtain ⟨s, h1, h2, _⟩ := DataW.trod_string hu hx
    refine ⟨s.data.toList, by rw [h1], ?_⟩
    subst h2
    have := hw s.data.toList.length (by simp [DataW.weights])
    simpa [reachBytes] using this
theorem weights_all_mem {e : TypeId} {l : List (DataW H)} {d : DataW H} {k : Nat} (hd : d ∈ l) (hk : k ∈ d.weights P e) : k ∈ DataW.weightsAll P e l := by
  induction l with
  | nil => cases hd
  | cons x r ih =>
    simp only [DataW.weightsAll, List.mem_append]
    rcases List.mem_cons.1 hd with rfl | h
    · exact .inl hk
    · exact .inr (ih h)
theorem exists_list {α : Type} {p : Nat → α → Prop} : ∀ (n : Nat), (∀ i, i < n → ∃ a, p i a) → ∃ l : List α, l.length = n ∧ ∀ (i : Nat) (a : α), l[i]? = some a → p i a
  | 0, _ => ⟨[], rfl, fun i a h => by simp at h⟩
  | n + 1, h => by
    obtain ⟨l, h1, h2⟩ := exists_list n fun i hi => h i (by omega)
    obtain ⟨a, ha⟩ := h n (by omega)
    refine ⟨l ++ [a], by simp [h1], fun i b hb => ?_⟩
    by_cases hi : i < l.length
    · rw [List.getElem?_append_left hi] at hb; exact h2 i b hb
    · rw [List.getElem?_append_right (by omega)] at hb
      have h0 : i - l.length = 0 := by
        have := (List.getElem?_eq_some_iff.1 hb).1
        simp at this; omega
      rw [h0] at hb; simp at hb; subst hb
      have : i = n := by omega
      rw [this]; exact ha
theorem flat_at {α : Type} {sz : Nat} {f : α → List Value} : ∀ {xs : List α} {k : Nat} {u : Value}, (∀ a, (f a).length = sz) → (xs.flatMap f)[k]? = some u → ∃ i j a, k = i * sz + j ∧ j < sz ∧ xs[i]? = some a ∧ (f a)[j]? = some u := by
  intro xs
  induction xs with
  | nil => intro k u _ h; simp at h
  | cons x r ih =>
    intro k u hf h
    simp only [List.flatMap_cons] at h
    by_cases hk : k < sz
    · rw [List.getElem?_append_left (by rw [hf]; exact hk)] at h
      exact ⟨0, k, x, by omega, hk, rfl, h⟩
    · rw [List.getElem?_append_right (by rw [hf]; omega), hf] at h
      obtain ⟨i, j, a, h1, h2, h3, h4⟩ := ih hf h
      exact ⟨i + 1, j, a, by rw [Nat.add_mul]; omega, h2, by simpa using h3, h4⟩
theorem Opens.slice {t e : TypeId} {sz : Nat} {α : Type} {f : α → List Value} {Q : α → Prop} (ht : P.underlying t = some (.slice e)) (hsz : P.cellsOf e = sz) (hpos : 0 < sz) (hf : ∀ a, (f a).length = sz) (h : Opens enc P W e f Q) :
    Opens enc P W t (fun p : Value × List α => [p.1]) (fun p => Sees W (fun _ => False) (.row sz p.1 p.2.length (p.2.flatMap f)) ∧ (∀ x ∈ p.2, Q x) ∧ p.2.length * P.bytesOf e ≤ 140737488351232) := by
  intro n cs x hx hw
  rcases open_slice ht hx with ⟨h1, h2⟩ | ⟨a, len, cap, m, n', D, Pl, rfl, _, hl, _, hmm, rfl, hel⟩
  · exact ⟨(.slice none 0 0, []), h1, Sees.nilRow, (fun x hx => by cases hx), by simp⟩
  · simp only [↓reduceIte] at hmm
    subst hmm
    have hmem : ∀ i, i < len → ∃ q : α, (∃ cs', W.cells? 0 (a.add (i * P.cellsOf e)) (P.cellsOf e) = some cs' ∧ cs' = f q) ∧ Q q := fun i hi => by
      obtain ⟨cs', h1, h2⟩ := hel i (by omega)
      obtain ⟨q, h3, h4⟩ := h n' cs' _ h2 fun k hk => hw k (by
        simp only [DataW.weights, ht, List.mem_cons, List.mem_append]
        refine .inr (.inl (weights_all_mem (List.mem_map.2 ⟨i, List.mem_range.2 hi, rfl⟩) hk)))
      exact ⟨q, ⟨cs', h1, h3⟩, h4⟩
    obtain ⟨xs, hxl, hxs⟩ := exists_list len hmem
    refine ⟨(.slice (some a) len m, xs), rfl, ?_, fun q hq => ?_, ?_⟩
    · simp only []
      rw [hxl]
      have hfl : (xs.flatMap f).length = len * sz := by
        rw [← hxl]
        clear hxs hxl
        induction xs with
        | nil => simp
        | cons y r ih => simp [hf, ih, Nat.add_mul, Nat.add_comm]
      refine row_of_cells hfl hl hpos fun k u hk => ?_
      obtain ⟨i, j, q, h1, h2, h3, h4⟩ := flat_at hf hk
      obtain ⟨⟨cs', h5, h6⟩, _⟩ := hxs i q h3
      obtain ⟨_, hlen, hcell⟩ := World.cells?_some h5
      have := hcell j (by rw [hsz]; exact h2)
      rw [add_add, hsz, ← h1] at this
      rw [this, h6, h4]
    · obtain ⟨i, hi, rfl⟩ := List.getElem_of_mem hq
      exact (hxs i _ (List.getElem?_eq_getElem hi)).2
    · have := hw ((len + (m - len)) * P.bytesOf e) (by simp [DataW.weights, ht])
      simp only [reachBytes] at this
      rw [hxl]
      have h2 : len * P.bytesOf e ≤ (len + (m - len)) * P.bytesOf e := Nat.mul_le_mul_right _ (by omega)
      omega
/-- Fields, from a place on. -/
def FO (enc : TypeId × Value → H) (P : Program) (W : World) (off : Nat) (fs : List Field) {α : Type} (f : α → List Value) (Q : α → Prop) : Prop :=
  ∀ n (cs : List Value) (xs : List (DataW H × List MemPlace)), cs.length = off + (fs.map fun g => P.cellsOf g.type).sum → xs.length = fs.length →
    (∀ (i : Nat) (g : Field), fs[i]? = some g → DataW.trod enc P W 0 (fun _ => true) true n g.type ((cs.drop g.offset).take (P.cellsOf g.type)) = xs[i]?) →
    (∀ k ∈ DataW.weightsEach P (fs.map (·.type)) (xs.map (·.1)), k ≤ reachBytes) → ∃ a, cs.drop off = f a ∧ Q a
theorem FO.nil {off : Nat} : FO enc P W off [] (fun _ : Unit => []) (fun _ => True) := fun n cs xs hl _ _ _ => ⟨(), by simp at hl; simp [hl], trivial⟩
theorem FO.cons {off off' : Nat} {g : Field} {fs : List Field} {α β : Type} {f1 : α → List Value} {Q1 : α → Prop} {f2 : β → List Value} {Q2 : β → Prop} (h1 : Opens enc P W g.type f1 Q1) (ho : g.offset = off) (hoff : off + P.cellsOf g.type = off') (h2 : FO enc P W off' fs f2 Q2) :
    FO enc P W off (g :: fs) (fun p : α × β => f1 p.1 ++ f2 p.2) (fun p => Q1 p.1 ∧ Q2 p.2) := by
  intro n cs xs hl hxl hx hw
  cases xs with
  | nil => simp at hxl
  | cons x xs =>
    subst hoff
    simp only [List.map_cons, DataW.weightsEach, List.mem_append] at hw
    obtain ⟨a, ha, qa⟩ := h1 n _ x (hx 0 g rfl) (fun k hk => hw k (.inl hk))
    obtain ⟨b, hb, qb⟩ := h2 n cs xs (by simp at hl; omega) (by simpa using hxl) (fun i g' hg => by simpa using hx (i + 1) g' (by simpa using hg)) (fun k hk => hw k (.inr hk))
    refine ⟨(a, b), ?_, qa, qb⟩
    simp only []
    rw [← ha, ← hb, ho, ← List.drop_drop, List.take_append_drop]
theorem Opens.struct {t : TypeId} {fs : Array Field} {α : Type} {f : α → List Value} {Q : α → Prop} (hu : P.underlying t = some (.struct fs)) (hc : P.cellsOf t = (fs.toList.map fun g => P.cellsOf g.type).sum) (h : FO enc P W 0 fs.toList f Q) : Opens enc P W t f Q := by
  intro n cs x hx hw
  obtain ⟨xs, n', _, rfl, hl, hxl, hel⟩ := DataW.trod_struct hu hx
  obtain ⟨a, h1, h2⟩ := h n' cs xs (by rw [hl, hc]; omega) (by simpa using hxl) (fun i g hg => hel i g (by simpa using hg)) (fun k hk => hw k (by simpa [DataW.weights, hu] using hk))
  exact ⟨a, by simpa using h1, h2⟩
/-- An argument, opened. -/
theorem Opens.arg {t : TypeId} {α : Type} {f : α → List Value} {Q : α → Prop} (h : Opens enc P W t f Q) {ts : List TypeId} {ds : List (DataW H)} {j : Nat} {v : Value} {d : DataW H} {ps : List MemPlace} (hd : DataW.Trod enc P W 0 (fun _ => true) true t v d ps)
    (hw : (DataW.weightsEach P ts ds).all (· ≤ reachBytes) = true) (ht : ts[j]? = some t) (hj : ds[j]? = some d) : ∃ a, v.cells.toList = f a ∧ Q a := by
  obtain ⟨n, hn⟩ := hd
  exact h n _ _ hn fun k hk => by
    have := List.all_eq_true.1 hw k (DataW.weights_mem_each ht hj k hk)
    simpa using this
theorem arg_str {t : TypeId} (ht : P.underlying t = some .string) {ts : List TypeId} {ds : List (DataW H)} {j base : Nat} {v : Value} {d : DataW H} {ps : List MemPlace} (hval : Value.okWide P W .any base t v) (hd : DataW.Trod enc P W 0 (fun _ => true) true t v d ps)
    (hw : (DataW.weightsEach P ts ds).all (· ≤ reachBytes) = true) (htj : ts[j]? = some t) (hj : ds[j]? = some d) : ∃ l : List UInt8, v = str l ∧ l.length ≤ 140737488351232 := by
  obtain ⟨s, rfl⟩ := okWide_string ht hval
  obtain ⟨l, h1, h2⟩ := (Opens.str (enc := enc) (W := W) ht).arg hd hw htj hj
  exact ⟨l, by simpa [Value.cells] using h1, h2⟩
theorem arg_slice {t e : TypeId} {sz : Nat} {α : Type} {f : α → List Value} {Q : α → Prop} (ht : P.underlying t = some (.slice e)) (hsz : P.cellsOf e = sz) (hpos : 0 < sz) (hf : ∀ a, (f a).length = sz) (h : Opens enc P W e f Q)
    {ts : List TypeId} {ds : List (DataW H)} {j base : Nat} {v : Value} {d : DataW H} {ps : List MemPlace} (hval : Value.okWide P W .any base t v) (hd : DataW.Trod enc P W 0 (fun _ => true) true t v d ps)
    (hw : (DataW.weightsEach P ts ds).all (· ≤ reachBytes) = true) (htj : ts[j]? = some t) (hj : ds[j]? = some d) :
    ∃ xs : List α, Sees W (fun _ => False) (.row sz v xs.length (xs.flatMap f)) ∧ (∀ x ∈ xs, Q x) ∧ xs.length * P.bytesOf e ≤ 140737488351232 := by
  obtain ⟨a0, len, cap, rfl⟩ := okWide_slice ht hval
  obtain ⟨⟨u, xs⟩, h1, h2, h3, h4⟩ := (Opens.slice ht hsz hpos hf h).arg hd hw htj hj
  have : u = .slice a0 len cap := by simpa [Value.cells] using h1.symm
  subst this
  exact ⟨xs, h2, h3, h4⟩
end
end Go.BK
