/- More operations: make, remainders of what was wrapped. No program in sight. -/
import Derived.Test.YtakffjjnogpolaaLibJ
namespace Go.BK
open Go.RowKit

section
variable {P : Program} {w0 : World} {S0 : BSet} {n : Nat} {F : Fr} {A r : List HP} {ops : Array Oper} {Q : Exit → Act → World → Prop} {rest : List Oper} {d : Nat} {T : TypeId} {pos : String} {af : Array Edge} {x y : Operand} {v u q : Value} {t ty e ee : TypeId} {k : IntKind} {a b : Int} {cs ys : List Value} {bl o sz len m i off : Nat} {xs : List Int}
  {dd : Option Tmp} {g : Option (Nat × Bool)}
theorem EvW.remW {k2 : IntKind} (hx : ev F x = some (.int k (k2.wrap a))) (hy : ev F y = some (.int k b)) (hu : k2.signed = false) (hb : 0 < b) : EvW P w0 S0 n F A ⟨dd, .binOp .rem t x y ty, T, pos, af, g⟩ (.int k (k2.wrap a % b)) := by
  have h := EvW.rem (P := P) (w0 := w0) (S0 := S0) (n := n) (A := A) (d := dd) (T := T) (pos := pos) (af := af) (g := g) (t := t) (ty := ty) hx hy (by omega)
  have h0 : 0 ≤ k2.wrap a := by have := (wrap_bounds k2 a).1; simp only [IntKind.min, hu, Bool.false_eq_true, ↓reduceIte] at this; exact this
  rwa [Int.tmod_eq_emod_of_nonneg h0] at h
theorem EvW.remP (hx : ev F x = some (.int k a)) (hy : ev F y = some (.int k b)) (h0 : 0 ≤ a) (hb : 0 < b) : EvW P w0 S0 n F A ⟨dd, .binOp .rem t x y ty, T, pos, af, g⟩ (.int k (a % b)) := by
  have h := EvW.rem (P := P) (w0 := w0) (S0 := S0) (n := n) (A := A) (d := dd) (T := T) (pos := pos) (af := af) (g := g) (t := t) (ty := ty) hx hy (by omega)
  rwa [Int.tmod_eq_emod_of_nonneg h0] at h
theorem EvW.quoP (hx : ev F x = some (.int k a)) (hy : ev F y = some (.int k b)) (h0 : 0 ≤ a) (hb : 0 < b) (hm : a ≤ k.max) : EvW P w0 S0 n F A ⟨dd, .binOp .quo t x y ty, T, pos, af, g⟩ (.int k (a / b)) := by
  have h := EvW.quo (P := P) (w0 := w0) (S0 := S0) (n := n) (A := A) (d := dd) (T := T) (pos := pos) (af := af) (g := g) (t := t) (ty := ty) hx hy (by omega)
  rw [Int.tdiv_eq_ediv_of_nonneg h0] at h
  have h1 : 0 ≤ a / b := Int.ediv_nonneg h0 (by omega)
  have h2 : a / b ≤ a := Int.ediv_le_self _ h0
  have h3 : k.min ≤ 0 := by cases k <;> decide
  rwa [wrap_in k ⟨by omega, by omega⟩] at h
theorem EvW.negN (hx : ev F x = some (.int k a)) (hw : k.min ≤ -a ∧ -a ≤ k.max) : EvW P w0 S0 n F A ⟨dd, .unOp .neg t x, T, pos, af, g⟩ (.int k (-a)) := by
  have h := EvW.neg (P := P) (w0 := w0) (S0 := S0) (n := n) (A := A) (d := dd) (T := T) (pos := pos) (af := af) (g := g) (t := t) hx
  rw [Int.zero_sub] at h
  rwa [wrap_in k hw] at h
/-- make, of one-celled elements. -/
theorem WL.make1 {bts : Nat} {z : Value} {k1 k2 : IntKind} (hn : Nat.blt d n = true) (hx : ev F x = some (.int k1 a)) (hy : ev F y = some (.int k2 a)) (hu : P.underlying t = some (.slice e)) (hz : szB P e = some 1) (hb : byB P e = some bts) (hzv : zvB P e = some z) (hz1 : z.cells = #[z])
    (h0 : 0 ≤ a) (hm : a ≤ 140737488355328) (hroom : a.toNat * bts ≤ 140737488355328) (kk : ∀ v', WL P w0 S0 n ops Q rest ((d, v') :: F) (.own e 1 v' a.toNat (List.replicate a.toNat z) :: A)) :
    WL P w0 S0 n ops Q (⟨some d, .makeSlice t x y, T, pos, af, none⟩ :: rest) F A := by
  refine .step (fun act w ha hst K hK => ?_) rfl
  obtain ⟨c, rfl⟩ := Int.eq_ofNat_of_zero_le h0
  simp only [Int.toNat_natCast] at hroom kk
  obtain ⟨inf, hinf, hby⟩ : ∃ inf, P.info? e = some inf ∧ inf.bytes = bts := by
    unfold byB at hb
    cases h : P.info? e with
    | none => simp [h] at hb
    | some i => simp [h] at hb; exact ⟨i, rfl, hb⟩
  subst hby
  have hwr : IntKind.i64.wrap (c : Int) = c := wrap_in _ (i64_in (by omega) (by omega))
  have hti : ∀ w' : World, (typeInfo e).run P w' = .ok inf w' := fun w' => run_typeInfo w' hinf
  have hroom' : ((inf.bytes : Int) * c) ≤ 140737488355328 := by
    have : ((c * inf.bytes : Nat) : Int) ≤ ((140737488355328 : Nat) : Int) := Int.ofNat_le.2 hroom
    rw [Int.mul_comm]; rw [Int.natCast_mul] at this; exact this
  have hnl : ¬ ((c : Int) < 0) := by omega
  have hbig : ¬ ((2 : Int) ^ 48 < (inf.bytes : Int) * c) := by omega
  have hcells : (Array.range c).map (fun i => (if c = 0 then (#[] : Array Value) else z.cells)[i % (if c = 0 then (#[] : Array Value) else z.cells).size]!) = (List.replicate c z).toArray := by
    by_cases hc0 : c = 0
    · subst hc0; exact Array.ext' (by simp)
    · simp only [hc0, ↓reduceIte, hz1]
      apply Array.ext'
      simp [List.map_const', Nat.mod_one]
  have hrun : (Instr.makeSlice t (.int k1 c) (.int k2 c)).run P w = .ok (.slice (some ⟨w.heap.size, 0, none⟩) c c) (w.alloc (.cells (List.replicate c z).toArray e)) := by
    by_cases hc0 : c = 0
    · subst hc0
      have hw0 : IntKind.i64.wrap 0 = 0 := hwr
      have hr0 : ∀ f : Nat → Value, Array.map f (Array.range 0) = #[] := fun f => Array.ext' (by simp)
      simp [Instr.makeSlice, run_underlying hu, asInt, asIntOf, hti, hw0, runSz hz, newRow, hr0]
    · simp only [hc0, ↓reduceIte] at hcells
      simp [Instr.makeSlice, run_underlying hu, asInt, asIntOf, hti, hwr, hnl, runSz hz, hc0, runZv hzv, newRow, hcells]
      intro hh; exfalso; omega
  have hex : (execOp act.eval ⟨some d, .makeSlice t x y, T, pos, af, none⟩).run P w = .ok (.value (.slice (some ⟨w.heap.size, 0, none⟩) c c)) (w.alloc (.cells (List.replicate c z).toArray e)) := by
    simp only [execOp, ha.eval hx, ha.eval hy, Sem.run_bind, hrun]; rfl
  unfold Oper.wp
  rw [hex]
  refine hK _ _ ((kk _).go _ _ (ha.put (by simpa using hn) _) ((hst.newBlk _ _).mono fun S w2 h => star_mono h (fun S' h' => ?_) fun _ h => h))

  have h2 : (HP.blk w.heap.size (List.replicate c z ++ []).toArray e).sat S' w2 := by rw [List.append_nil]; exact h'
  exact blk_own h2 (by simp) (Nat.le_refl _) (by simp)
theorem over_one {l : List Value} {j : Nat} {u : Value} (h : j < l.length) : over l j [u] = l.set j u := by
  unfold over
  rw [List.set_eq_take_append_cons_drop, if_pos h]
  simp
/-- Guarded by what was itself passed over. -/
theorem WL.unwantedU {g : Nat × Bool} {go : Oper} {gd d : Nat} {op : Op} {T : TypeId} {pos : String} {af : Array Edge} (hj : ops[g.1]? = some go) (hgd : go.dst = some gd) (hv : F.get gd = some undef) (hn : Nat.blt d n = true)
    (kk : WL P w0 S0 n ops Q rest ((d, undef) :: F) A) : WL P w0 S0 n ops Q (⟨some d, op, T, pos, af, some g⟩ :: rest) F A :=
  ⟨fun a w ha hs => by
    have hy : yielded ops a.tmps g.1 = none := by simp [yielded, hj, hgd, ha.get gd _ hv, undef]
    unfold wpList
    rw [if_neg (by simp [Region.wanted, hy])]
    exact kk.go _ _ (ha.put (by simpa using hn) undef) hs⟩
end
end Go.BK
