/- Statements of the second form: what the bound on the arguments' bulk gives. No program in sight. -/
import Derived.Test.YtakffjjnogpolaaRows
import Derived.Test.YtakffjjnogpolaaLibL
import Derived.Test.YtakffjjnogpolaaLibN
import Derived.JoinedCond
import Derived.OpenShut
namespace Go.Proofs.Ytakffjjnogpolaa
open Go.RowKit Go.BK Go.ChangeShapes Go.WideShapes Go.ChangeAt Go.ChangeMaps Go.Deep

theorem flat_one {α : Type} (f : α → Value) (l : List α) : (l.flatMap fun a => [f a]) = l.map f := by
  induction l with
  | nil => rfl
  | cons x r ih => rw [List.flatMap_cons, ih]; rfl
theorem wf_i64 {a : Int} (h : (Lit.int .i64 a).wf = true) : -9223372036854775808 ≤ a ∧ a ≤ 9223372036854775807 := by
  simp only [Lit.wf, Bool.and_eq_true, decide_eq_true_eq] at h
  exact h
section
variable {H : Type} {enc : TypeId × Value → H} {P : Program} {W : World}

/-- Arrays of one-celled elements. -/
theorem Opens.arr {t e : TypeId} {num : Nat} {α : Type} {f0 : α → Value} {Q : α → Prop} (ht : P.underlying t = some (.array num e)) (hc : P.cellsOf e = 1) (hct : P.cellsOf t = num) (h : Opens enc P W e (fun a => [f0 a]) Q) :
    Opens enc P W t (fun l : List α => l.map f0) (fun l => l.length = num ∧ ∀ x ∈ l, Q x) := by
  intro fuel cs x hx hw
  obtain ⟨xs, m, _, rfl, hl, hxl, hel⟩ := DataW.trod_array ht hx
  rw [hct] at hl
  have hmem : ∀ i, i < num → ∃ a, cs[i]? = some (f0 a) ∧ Q a := fun i hi => by
    have h1 := hel i hi
    rw [hc, Nat.mul_one, List.getElem?_eq_getElem (by omega)] at h1
    obtain ⟨a, h2, h3⟩ := h m _ _ h1 fun k hk => hw k (by
      simp only [DataW.weights, ht]
      exact weights_all_mem (List.mem_map.2 ⟨_, List.getElem_mem (by omega), rfl⟩) hk)
    refine ⟨a, ?_, h3⟩
    have : ((cs.drop i).take 1)[0]? = some (f0 a) := by rw [h2]; rfl
    simpa [List.getElem?_take, List.getElem?_drop] using this
  obtain ⟨l, hll, hlp⟩ := exists_list num hmem
  refine ⟨l, ?_, hll, fun y hy => ?_⟩
  · apply List.ext_getElem?
    intro i
    by_cases hi : i < num
    · have h1 := (hlp i l[i] (List.getElem?_eq_getElem (by omega))).1
      rw [h1, List.getElem?_map, List.getElem?_eq_getElem (by omega)]; rfl
    · rw [List.getElem?_eq_none (by omega), List.getElem?_eq_none (by simp; omega)]
  · obtain ⟨i, hi, rfl⟩ := List.getElem_of_mem hy
    exact (hlp i _ (List.getElem?_eq_getElem hi)).2
theorem Opens.byte {e : TypeId} (hu : P.underlying e = some (.int .u8)) : Opens enc P W e (fun c : UInt8 => [byt c]) (fun _ => True) :=
  (Opens.int hu).map (fun a => UInt8.ofNat a.toNat) (fun a ha => by
    simp only [Lit.wf, Bool.and_eq_true, decide_eq_true_eq, IntKind.min, IntKind.max, IntKind.signed, IntKind.bits, Bool.false_eq_true, ↓reduceIte] at ha
    simp only [byt, List.cons.injEq, Value.int.injEq, true_and, and_true]
    rw [UInt8.toNat_ofNat']
    omega) (fun _ _ => trivial)
theorem okWide_arr {t e : TypeId} {num base : Nat} {v : Value} (ht : P.underlying t = some (.array num e)) (h : Value.okWide P W .any base t v) : ∃ cs, v = .agg cs := by
  unfold Value.okWide at h
  rw [ht] at h
  obtain ⟨cs, h, _⟩ := h
  exact ⟨cs, h⟩
/-- An argument that is a struct or an array. -/
theorem arg_agg {t : TypeId} {α : Type} {f : α → List Value} {Q : α → Prop} (h : Opens enc P W t f Q) {ts : List TypeId} {ds : List (DataW H)} {j : Nat} {v : Value} {d : DataW H} {ps : List MemPlace} (hag : ∃ cs, v = .agg cs) (hd : DataW.Trod enc P W 0 (fun _ => true) true t v d ps)
    (hw : (DataW.weightsEach P ts ds).all (· ≤ reachBytes) = true) (ht : ts[j]? = some t) (hj : ds[j]? = some d) : ∃ a, v = .agg (f a).toArray ∧ Q a := by
  obtain ⟨cs, rfl⟩ := hag
  obtain ⟨a, h1, h2⟩ := h.arg hd hw ht hj
  exact ⟨a, by rw [← h1]; simp [Value.cells], h2⟩
/-- What is read as type e is f of something of which Q holds, and whose measure is at most the reading's bulk. -/
def OpensU (enc : TypeId × Value → H) (P : Program) (W : World) (e : TypeId) {α : Type} (f : α → List Value) (Q : α → Prop) (μ : α → Nat) : Prop :=
  ∀ n cs x, DataW.trod enc P W 0 (fun _ => true) true n e cs = some x → ∃ a, cs = f a ∧ Q a ∧ μ a ≤ Rows.uptoBulk x.1
theorem OpensU.map {e : TypeId} {α β : Type} {f : α → List Value} {Q : α → Prop} {μ : α → Nat} {f' : β → List Value} {Q' : β → Prop} {μ' : β → Nat} (h : OpensU enc P W e f Q μ) (g : α → β) (hf : ∀ a, Q a → f a = f' (g a)) (hQ : ∀ a, Q a → Q' (g a)) (hμ : ∀ a, Q a → μ' (g a) ≤ μ a) : OpensU enc P W e f' Q' μ' :=
  fun n cs x hx => by
    obtain ⟨a, h1, h2, h3⟩ := h n cs x hx
    exact ⟨g a, by rw [h1, hf a h2], hQ a h2, Nat.le_trans (hμ a h2) h3⟩
theorem OpensU.int {e : TypeId} {k : IntKind} (hu : P.underlying e = some (.int k)) : OpensU enc P W e (fun a : Int => [.int k a]) (fun a => (Lit.int k a).wf = true) (fun _ => 1) :=
  fun n cs x hx => by
    obtain ⟨a, h1, h3, h2⟩ := DataW.trod_int hu hx
    exact ⟨a, h1, h2, by rw [h3]; simp [Rows.uptoBulk]⟩
theorem OpensU.bool {e : TypeId} (hu : P.underlying e = some .bool) : OpensU enc P W e (fun a : Bool => [.bool a]) (fun _ => True) (fun _ => 1) :=
  fun n cs x hx => by
    obtain ⟨a, h1, h3⟩ := DataW.trod_bool hu hx
    exact ⟨a, h1, trivial, by rw [h3]; simp [Rows.uptoBulk]⟩
theorem OpensU.str {e : TypeId} (hu : P.underlying e = some .string) : OpensU enc P W e (fun l : List UInt8 => [str l]) (fun _ => True) (fun l => l.length + 1) :=
  fun n cs x hx => by
    obtain ⟨s, h1, h2, _⟩ := DataW.trod_string hu hx
    exact ⟨s.data.toList, by rw [h1], trivial, by rw [h2]; simp [Rows.uptoBulk]⟩
theorem bulk_sum {α : Type} {μ : α → Nat} {D : Nat → DataW H} : ∀ {xs : List α} {m : Nat}, (∀ i a, xs[i]? = some a → μ a ≤ Rows.uptoBulk (D (m + i))) → (xs.map μ).sum ≤ Rows.uptoBulkAll ((List.range' m xs.length).map D) := by
  intro xs
  induction xs with
  | nil => intro m _; simp [Rows.uptoBulkAll]
  | cons x r ih =>
    intro m h
    have h0 := h 0 x rfl
    have := ih (m := m + 1) fun i a hi => by
      have := h (i + 1) a (by simpa using hi)
      rwa [Nat.add_assoc, Nat.add_comm 1 i]
    simp only [List.map_cons, List.sum_cons, List.length_cons, List.range'_succ, Rows.uptoBulkAll]
    rw [Nat.add_zero] at h0
    omega
theorem OpensU.slice {t e : TypeId} {sz : Nat} {α : Type} {f : α → List Value} {Q : α → Prop} {μ : α → Nat} (ht : P.underlying t = some (.slice e)) (hsz : P.cellsOf e = sz) (hpos : 0 < sz) (hf : ∀ a, (f a).length = sz) (h : OpensU enc P W e f Q μ) :
    OpensU enc P W t (fun p : Value × List α => [p.1]) (fun p => Sees W (fun _ => False) (.row sz p.1 p.2.length (p.2.flatMap f)) ∧ ∀ x ∈ p.2, Q x) (fun p => (p.2.map μ).sum + 1) := by
  intro n cs x hx
  rcases open_slice ht hx with ⟨h1, h2⟩ | ⟨a, len, cap, m, n', D, Pl, rfl, _, hl, _, hmm, rfl, hel⟩
  · exact ⟨(.slice none 0 0, []), h1, ⟨Sees.nilRow, fun x hx => by cases hx⟩, by rw [h2]; simp [Rows.uptoBulk]⟩
  · simp only [↓reduceIte] at hmm
    subst hmm
    have hmem : ∀ i, i < len → ∃ q : α, (∃ cs', W.cells? 0 (a.add (i * P.cellsOf e)) (P.cellsOf e) = some cs' ∧ cs' = f q) ∧ Q q ∧ μ q ≤ Rows.uptoBulk (D i) := fun i hi => by
      obtain ⟨cs', h1, h2⟩ := hel i (by omega)
      obtain ⟨q, h3, h4⟩ := h n' cs' _ h2
      exact ⟨q, ⟨cs', h1, h3⟩, h4⟩
    obtain ⟨xs, hxl, hxs⟩ := exists_list len hmem
    refine ⟨(.slice (some a) len m, xs), rfl, ⟨?_, fun q hq => ?_⟩, ?_⟩
    · simp only []
      rw [hxl]
      have hfl : (xs.flatMap f).length = len * sz := by rw [flat_length hf, hxl]
      refine row_of_cells hfl hl hpos fun k u hk => ?_
      obtain ⟨i, j, q, h1, h2, h3, h4⟩ := flat_at hf hk
      obtain ⟨⟨cs', h5, h6⟩, _⟩ := hxs i q h3
      obtain ⟨_, hlen, hcell⟩ := World.cells?_some h5
      have := hcell j (by rw [hsz]; exact h2)
      rw [add_add, hsz, ← h1] at this
      rw [this, h6, h4]
    · obtain ⟨i, hi, rfl⟩ := List.getElem_of_mem hq
      exact (hxs i _ (List.getElem?_eq_getElem hi)).2.1
    · have := bulk_sum (μ := μ) (D := D) (xs := xs) (m := 0) fun i a hi => by rw [Nat.zero_add]; exact (hxs i a hi).2.2
      rw [hxl, ← List.range_eq_range'] at this
      simp only [Rows.uptoBulk]
      omega
/-- Fields, from a place on. -/
def FOU (enc : TypeId × Value → H) (P : Program) (W : World) (off : Nat) (fs : List Field) {α : Type} (f : α → List Value) (Q : α → Prop) (μ : α → Nat) : Prop :=
  ∀ n (cs : List Value) (xs : List (DataW H × List MemPlace)), cs.length = off + (fs.map fun g => P.cellsOf g.type).sum → xs.length = fs.length →
    (∀ (i : Nat) (g : Field), fs[i]? = some g → DataW.trod enc P W 0 (fun _ => true) true n g.type ((cs.drop g.offset).take (P.cellsOf g.type)) = xs[i]?) → ∃ a, cs.drop off = f a ∧ Q a ∧ μ a ≤ Rows.uptoBulkAll (xs.map (·.1))
theorem FOU.nil {off : Nat} : FOU enc P W off [] (fun _ : Unit => []) (fun _ => True) (fun _ => 0) := fun n cs xs hl _ _ => ⟨(), by simp at hl; simp [hl], trivial, Nat.zero_le _⟩
theorem FOU.cons {off off' : Nat} {g : Field} {fs : List Field} {α β : Type} {f1 : α → List Value} {Q1 : α → Prop} {μ1 : α → Nat} {f2 : β → List Value} {Q2 : β → Prop} {μ2 : β → Nat} (h1 : OpensU enc P W g.type f1 Q1 μ1) (ho : g.offset = off) (hoff : off + P.cellsOf g.type = off') (h2 : FOU enc P W off' fs f2 Q2 μ2) :
    FOU enc P W off (g :: fs) (fun p : α × β => f1 p.1 ++ f2 p.2) (fun p => Q1 p.1 ∧ Q2 p.2) (fun p => μ1 p.1 + μ2 p.2) := by
  intro n cs xs hl hxl hx
  cases xs with
  | nil => simp at hxl
  | cons x xs =>
    subst hoff
    obtain ⟨a, ha, qa, ma⟩ := h1 n _ x (hx 0 g rfl)
    obtain ⟨b, hb, qb, mb⟩ := h2 n cs xs (by simp at hl; omega) (by simpa using hxl) (fun i g' hg => by simpa using hx (i + 1) g' (by simpa using hg))
    refine ⟨(a, b), ?_, ⟨qa, qb⟩, by simp only [List.map_cons, Rows.uptoBulkAll]; omega⟩
    simp only []
    rw [← ha, ← hb, ho, ← List.drop_drop, List.take_append_drop]
theorem OpensU.struct {t : TypeId} {fs : Array Field} {α : Type} {f : α → List Value} {Q : α → Prop} {μ : α → Nat} (hu : P.underlying t = some (.struct fs)) (hc : P.cellsOf t = (fs.toList.map fun g => P.cellsOf g.type).sum) (h : FOU enc P W 0 fs.toList f Q μ) : OpensU enc P W t f Q (fun a => μ a + 1) := by
  intro n cs x hx
  obtain ⟨xs, n', _, rfl, hl, hxl, hel⟩ := DataW.trod_struct hu hx
  obtain ⟨a, h1, h2, h3⟩ := h n' cs xs (by rw [hl, hc]; omega) (by simpa using hxl) (fun i g hg => hel i g (by simpa using hg))
  exact ⟨a, by simpa using h1, h2, by simp only [Rows.uptoBulk]; omega⟩
/-- An argument, opened. -/
theorem OpensU.arg {t : TypeId} {α : Type} {f : α → List Value} {Q : α → Prop} {μ : α → Nat} (h : OpensU enc P W t f Q μ) {v : Value} {d : DataW H} {ps : List MemPlace} (hd : DataW.Trod enc P W 0 (fun _ => true) true t v d ps) : ∃ a, v.cells.toList = f a ∧ Q a ∧ μ a ≤ Rows.uptoBulk d := by
  obtain ⟨n, hn⟩ := hd
  exact h n _ _ hn
theorem argU_str {t : TypeId} (ht : P.underlying t = some .string) {base : Nat} {v : Value} {d : DataW H} {ps : List MemPlace} (hval : Value.okWide P W .any base t v) (hd : DataW.Trod enc P W 0 (fun _ => true) true t v d ps) : ∃ l : List UInt8, v = str l ∧ l.length + 1 ≤ Rows.uptoBulk d := by
  obtain ⟨s, rfl⟩ := okWide_string ht hval
  obtain ⟨l, h1, _, h2⟩ := (OpensU.str (enc := enc) (W := W) ht).arg hd
  exact ⟨l, by simpa [Value.cells] using h1, h2⟩
theorem argU_agg {t : TypeId} {α : Type} {f : α → List Value} {Q : α → Prop} {μ : α → Nat} (h : OpensU enc P W t f Q μ) {v : Value} {d : DataW H} {ps : List MemPlace} (hag : ∃ cs, v = .agg cs) (hd : DataW.Trod enc P W 0 (fun _ => true) true t v d ps) : ∃ a, v = .agg (f a).toArray ∧ Q a ∧ μ a ≤ Rows.uptoBulk d := by
  obtain ⟨cs, rfl⟩ := hag
  obtain ⟨a, h1, h2⟩ := h.arg hd
  exact ⟨a, by rw [← h1]; simp [Value.cells], h2⟩
theorem argU_slice {t e : TypeId} {sz : Nat} {α : Type} {f : α → List Value} {Q : α → Prop} {μ : α → Nat} (ht : P.underlying t = some (.slice e)) (hsz : P.cellsOf e = sz) (hpos : 0 < sz) (hf : ∀ a, (f a).length = sz) (h : OpensU enc P W e f Q μ)
    {base : Nat} {v : Value} {d : DataW H} {ps : List MemPlace} (hval : Value.okWide P W .any base t v) (hd : DataW.Trod enc P W 0 (fun _ => true) true t v d ps) :
    ∃ xs : List α, Sees W (fun _ => False) (.row sz v xs.length (xs.flatMap f)) ∧ (∀ x ∈ xs, Q x) ∧ (xs.map μ).sum + 1 ≤ Rows.uptoBulk d := by
  obtain ⟨a0, len, cap, rfl⟩ := okWide_slice ht hval
  obtain ⟨⟨u, xs⟩, h1, ⟨h2, h3⟩, h4⟩ := (OpensU.slice ht hsz hpos hf h).arg hd
  have : u = .slice a0 len cap := by simpa [Value.cells] using h1.symm
  subst this
  exact ⟨xs, h2, h3, h4⟩

/-- A law of the second form: its call answers true, and turns nothing that was there. -/
theorem law_liftedU {C : Checked} {os : Os} {f : FuncId} {fn : Func} {s : ChangeSpec} {F : Stop.Interp} {conds : List PathCond} {tb : TypeId}
    (own : ownKnob C.prog.godebug = none) (started : os.Started) (noInit : C.prog.inits.idxOf? f = none) (hfn : C.prog.funcs[f]? = some fn) (hb : fn.resultTypes = #[tb]) (hub : C.prog.underlying tb = some .bool) (hv : s.vars = [])
    (hl : laidOutB C.prog = true) (hread : (fn.params.toList.all fun t => C.prog.readableRec t && decide (t < C.prog.types.size)) = true)
    (hs : ∀ ds : List (DataW H), ds.length = fn.params.toList.length → s.fn H ds = { results := [.lit (.bool true)], args := ds })
    (witness : ∃ (w : World) (tape : Tape) (i : Input), w.os = os ∧ (w.forCall tape i).Shaped C.prog ∧ i.vars = [] ∧ Input.okWide C.prog (w.forCall tape i) .any w.heap.size f i ∧
      (Rows.OpenSpec.upto s).pre6 enc C.prog fn conds false (w.forCall tape i).memory i.args ∧ (({} : Assume)).holds C.prog (lone (Frame.enter C.prog f i.args .normal) [] (w.forCall tape i)))
    (contract : ∀ (W : World) (base : Nat) (args : Array Value) (ds : List (DataW H)) (p : List MemPlace),
      (∀ (j : Nat) t v, fn.params[j]? = some t → args[j]? = some v → Value.okWide C.prog W .any base t v) → DataW.TrodAll enc C.prog W 0 (fun _ => true) true fn.params.toList args.toList ds p →
      Rows.uptoBulkAll ds ≤ 1048576 → Calls C.prog f args W fun e W' => e = .returned (.bool true) ∧ Below W.heap.size W W') :
    ReturnsInHanded {} C os f .any ((Rows.OpenSpec.upto s).pre6 enc C.prog fn conds false) (((Rows.OpenSpec.upto s).at F).post enc C.prog fn false true false false) := by
  refine returnsInHanded_of_cond (s := Rows.OpenSpec.upto s) (k := Rows.uptoSmall) rfl own started noInit hfn witness ?_
  intro W base args ds gs before hval hW _ hk _
  have hW' := hW
  obtain ⟨p, q, hA, hV, rfl, _, _⟩ := hW
  rw [show (Rows.OpenSpec.upto s).vars = s.vars from rfl, hv] at hV
  obtain ⟨rfl, rfl⟩ := trodVars_none hV
  have hbulk : Rows.uptoBulkAll ds ≤ 1048576 := by
    have : Rows.uptoBulkAll (ds ++ []) ≤ 1048576 := of_decide_eq_true hk
    rwa [List.append_nil] at this
  refine (contract W base args ds p hval hA hbulk).mono fun e W' ⟨he, hbel⟩ => ?_
  have hds : ds.length = fn.params.toList.length := trodAll_length _ _ _ _ hA
  have hlt : ∀ x ∈ p, x.block < W.heap.size := fun x hx => hW'.lt x (List.mem_append_left _ hx)
  have hfn' : ((Rows.OpenSpec.upto s).at F).fn = s.fn := rfl
  have hvars' : ((Rows.OpenSpec.upto s).at F).vars = s.vars := rfl
  refine ⟨_, he, ds, [], p ++ [], [], p, [], hW', ?_, ?_, ?_, hbel.frame _, fun h => by cases h⟩
  · rw [List.append_nil, hfn', hs ds hds, hb]
    simp only [Value.resultList]
    exact ⟨[], [], shut_bool hub true, rfl, rfl⟩
  · rw [List.append_nil, hfn', hs ds hds]
    exact trodAll_stay hl hbel _ _ _ _ (fun t ht => by
      have := List.all_eq_true.1 hread t ht
      simpa using this) hA hlt
  · rw [List.append_nil, hfn', hs ds hds, hvars', hv]; rfl
end
end Go.Proofs.Ytakffjjnogpolaa
