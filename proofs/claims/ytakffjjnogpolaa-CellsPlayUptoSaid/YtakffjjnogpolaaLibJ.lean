/- How a law's statement comes of its contract; arguments read as assertions. No program in sight. -/
import Derived.Test.YtakffjjnogpolaaLibI
import Derived.ProofKit
import Derived.SizedLaws
import Derived.ChangeSlices
import Derived.SliceStrings
import Derived.ChangeMaps5
namespace Go.BK
open Go.RowKit Go.ChangeShapes Go.WideShapes Go.ChangeAt Go.ChangeMaps

section
variable {H : Type} {enc : TypeId × Value → H} {P : Program}

theorem trodAll_stay {W W' : World} (hl : laidOutB P = true) (hb : Below W.heap.size W W') : ∀ (ts : List TypeId) (vs : List Value) (ds : List (DataW H)) (ps : List MemPlace), (∀ t ∈ ts, P.readableRec t = true ∧ t < P.types.size) →
    DataW.TrodAll enc P W 0 (fun _ => true) true ts vs ds ps → (∀ x ∈ ps, x.block < W.heap.size) → DataW.TrodAll enc P W' 0 (fun b => decide (b < W.heap.size)) true ts vs ds ps := by
  intro ts
  induction ts with
  | nil => intro vs ds ps _ h _; cases vs <;> cases ds <;> simp_all [DataW.TrodAll]
  | cons t ts ih =>
    intro vs ds ps ht h hlt
    cases vs with
    | nil => simp [DataW.TrodAll] at h
    | cons v vs =>
      cases ds with
      | nil => simp [DataW.TrodAll] at h
      | cons d ds =>
        simp only [DataW.TrodAll] at h ⊢
        obtain ⟨p, q, h1, h2, h3⟩ := h
        subst h3
        exact ⟨p, q, Below.trod hl (ht t (List.mem_cons_self ..)).1 (ht t (List.mem_cons_self ..)).2 h1 hb (fun x hx => hlt x (List.mem_append_left _ hx)), ih vs ds q (fun t' ht' => ht t' (List.mem_cons_of_mem _ ht')) h2 (fun x hx => hlt x (List.mem_append_right _ hx)), rfl⟩
theorem trodAll_length {W : World} : ∀ (ts : List TypeId) (vs : List Value) (ds : List (DataW H)) (ps : List MemPlace), DataW.TrodAll enc P W 0 (fun _ => true) true ts vs ds ps → ds.length = ts.length := by
  intro ts
  induction ts with
  | nil => intro vs ds ps h; cases vs <;> cases ds <;> simp_all [DataW.TrodAll]
  | cons t ts ih =>
    intro vs ds ps h
    cases vs with
    | nil => simp [DataW.TrodAll] at h
    | cons v vs =>
      cases ds with
      | nil => simp [DataW.TrodAll] at h
      | cons d ds =>
        simp only [DataW.TrodAll] at h
        obtain ⟨p, q, h1, h2, h3⟩ := h
        simp [ih vs ds q h2]

/-- A law: its call answers true, and turns nothing that was there. -/
theorem law_lifted {C : Checked} {os : Os} {f : FuncId} {fn : Func} {s : ChangeSpec} {conds : List PathCond} {tb : TypeId}
    (own : ownKnob C.prog.godebug = none) (started : os.Started) (noInit : C.prog.inits.idxOf? f = none) (hfn : C.prog.funcs[f]? = some fn) (hb : fn.resultTypes = #[tb]) (hub : C.prog.underlying tb = some .bool) (hv : s.vars = [])
    (hl : laidOutB C.prog = true) (hread : (fn.params.toList.all fun t => C.prog.readableRec t && decide (t < C.prog.types.size)) = true)
    (hs : ∀ ds : List (DataW H), ds.length = fn.params.toList.length → s.fn H ds = { results := [.lit (.bool true)], args := ds })
    (witness : ∃ (w : World) (tape : Tape) (i : Input), w.os = os ∧ (w.forCall tape i).Shaped C.prog ∧ i.vars = [] ∧ Input.okWide C.prog (w.forCall tape i) .any w.heap.size f i ∧
      s.pre6 enc C.prog fn conds false (w.forCall tape i).memory i.args ∧ (({} : Assume)).holds C.prog (lone (Frame.enter C.prog f i.args .normal) [] (w.forCall tape i)))
    (contract : ∀ (W : World) (base : Nat) (args : Array Value) (ds : List (DataW H)) (p : List MemPlace),
      (∀ (j : Nat) t v, fn.params[j]? = some t → args[j]? = some v → Value.okWide C.prog W .any base t v) → DataW.TrodAll enc C.prog W 0 (fun _ => true) true fn.params.toList args.toList ds p →
      (DataW.weightsEach C.prog fn.params.toList ds).all (· ≤ reachBytes) = true → Calls C.prog f args W fun e W' => e = .returned (.bool true) ∧ Below W.heap.size W W') :
    ReturnsInHanded {} C os f .any (s.pre6 enc C.prog fn conds false) (s.post enc C.prog fn false true false false) := by
  refine returnsInHanded_of_change_sized own started noInit hfn witness ?_
  intro W base args ds gs before hval hW _ hsz _
  have hW' := hW
  obtain ⟨p, q, hA, hV, rfl, _, _⟩ := hW
  rw [hv] at hV
  obtain ⟨rfl, rfl⟩ := trodVars_none hV
  have hvt : s.plain.varTypes C.prog = [] := by simp [ChangeSpec.plain, DataSpec.varTypes, hv]
  rw [hvt] at hsz
  simp only [List.append_nil] at hsz
  refine (contract W base args ds p hval hA hsz).mono fun e W' ⟨he, hbel⟩ => ?_
  have hds : ds.length = fn.params.toList.length := trodAll_length _ _ _ _ hA
  have hlt : ∀ x ∈ p, x.block < W.heap.size := fun x hx => hW'.lt x (List.mem_append_left _ hx)
  refine ⟨_, he, ds, [], p ++ [], [], p, [], hW', ?_, ?_, ?_, hbel.frame _, fun h => by cases h⟩
  · rw [List.append_nil, hs ds hds, hb]
    simp only [Value.resultList]
    exact ⟨[], [], shut_bool hub true, rfl, rfl⟩
  · rw [List.append_nil, hs ds hds]
    exact trodAll_stay hl hbel _ _ _ _ (fun t ht => by
      have := List.all_eq_true.1 hread t ht
      simpa using this) hA hlt
  · rw [List.append_nil, hs ds hds, hv]; rfl

theorem cell_block {w : World} {a : Addr} {v : Value} (h : w.cell? a = some v) : a.spot = none ∧ ∃ c T fr, w.heap[a.block]? = some (.cells c T fr) ∧ c[a.off]? = some v := by
  unfold World.cell? at h
  split at h
  · rename_i c T fr hh
    split at h
    · cases h
    · rename_i hs
      refine ⟨by simpa using hs, c, T, fr, hh, h⟩
  · cases h
/-- Cells that read as a list are a row. -/
theorem row_of_cells {W : World} {a : Addr} {len cap sz : Nat} {cs : List Value} (hl : cs.length = len * sz) (hcap : len ≤ cap) (hsz : 0 < sz) (hc : ∀ i u, cs[i]? = some u → W.cell? (a.add i) = some u) : Sees W (fun _ => False) (.row sz (.slice (some a) len cap) len cs) := by
  by_cases h0 : len = 0
  · subst h0
    exact ⟨fun _ => False, ⟨hl, .inl ⟨_, _, rfl, rfl, fun _ h => h⟩⟩, fun _ h => h.elim⟩
  · have hlt : 0 < cs.length := by rw [hl]; exact Nat.mul_pos (by omega) hsz
    have h1 := hc 0 cs[0] (by simp [hlt])
    have ha0 : a.add 0 = a := by simp [Addr.add]
    rw [ha0] at h1
    obtain ⟨hs, c, T, fr, hh, _⟩ := cell_block h1
    obtain ⟨b, off, sp⟩ := a
    simp only at hs; subst hs
    refine ⟨fun x => x = b, ⟨hl, .inr ⟨b, off, cap, c, T, fr, rfl, fun _ => Iff.rfl, hh, fun k u hk => ?_, hcap⟩⟩, fun _ _ h => h⟩
    have h2 := hc k u hk
    rw [add_at] at h2
    obtain ⟨_, c', T', fr', hh', h3⟩ := cell_block h2
    simp only at hh' h3
    simp only at hh
    rw [hh] at hh'
    injection hh' with hh'
    injection hh' with e1 _ _
    rw [e1]; exact h3
theorem open_row_ints {W : World} {base : Nat} {t e : TypeId} {k : IntKind} {v : Value} {d : DataW H} {ps : List MemPlace} (ht : P.underlying t = some (.slice e)) (he : P.underlying e = some (.int k)) (hc : P.cellsOf e = 1)
    (hval : Value.okWide P W .any base t v) (h : DataW.Trod enc P W 0 (fun _ => true) true t v d ps) :
    ∃ xs : List Int, Sees W (fun _ => False) (.row 1 v xs.length (xs.map (Value.int k))) ∧ (∀ n ∈ xs, (Lit.int k n).wf = true) ∧ ((d = .nil ∧ xs = []) ∨ ∃ rest, d = .slice (lits k xs) rest) := by
  obtain ⟨a0, len, cap, rfl⟩ := okWide_slice ht hval
  obtain ⟨fuel, hf⟩ := h
  rcases open_ints ht he hc hf with ⟨h1, h2⟩ | ⟨a, len', cap', zs, h1, _, h3, _, h5, h6, h7, h8⟩
  · simp [Value.cells] at h1
    obtain ⟨rfl, rfl, rfl⟩ := h1
    simp only [Prod.mk.injEq] at h2
    exact ⟨[], Sees.nilRow, (fun _ h => by cases h), .inl ⟨h2.1, rfl⟩⟩
  · simp [Value.cells] at h1
    obtain ⟨rfl, rfl, rfl⟩ := h1
    simp only [Prod.mk.injEq] at h6
    simp only [↓reduceIte] at h5
    have hlen : (zs.take len).length = len := by rw [List.length_take]; omega
    refine ⟨zs.take len, ?_, fun n hn => h8 n (List.mem_of_mem_take hn), .inr ⟨_, h6.1⟩⟩
    rw [hlen]
    refine row_of_cells (by simp; omega) h3 (by omega) fun i u hi => ?_
    have hi' := (List.getElem?_eq_some_iff.1 hi).1
    simp only [List.length_map, hlen] at hi'
    rw [h7 i (by omega), ← hi]
    simp [hi', List.getD_eq_getElem?_getD, List.getElem?_eq_getElem (show i < zs.length by omega)]

theorem ints_reach {ts : List TypeId} {ds : List (DataW H)} {j : Nat} {t e : TypeId} {k : IntKind} {d : DataW H} {xs : List Int} (h : (DataW.weightsEach P ts ds).all (· ≤ reachBytes) = true) (ht : ts[j]? = some t) (hd : ds[j]? = some d) (hu : P.underlying t = some (.slice e))
    (hx : (d = .nil ∧ xs = []) ∨ ∃ rest, d = .slice (lits k xs) rest) : xs.length * P.bytesOf e ≤ 140737488351232 := by
  rcases hx with ⟨_, rfl⟩ | ⟨rest, rfl⟩
  · simp
  · have := sized_slice h ht hd hu
    simp only [lits, List.length_map, reachBytes] at this
    have h2 : xs.length * P.bytesOf e ≤ (xs.length + rest.length) * P.bytesOf e := Nat.mul_le_mul_right _ (by omega)
    omega
end
end Go.BK
