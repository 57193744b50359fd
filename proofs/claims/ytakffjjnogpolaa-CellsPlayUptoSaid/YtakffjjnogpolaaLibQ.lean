/- Steps of a region whose order is open: what gives new memory; calls. No program in sight. -/
import Derived.Test.YtakffjjnogpolaaLibP
namespace Go.BK
open Go.RowKit

section
variable {P : Program} {w0 : World} {S0 : BSet} {n : Nat} {F : Fr} {A r : List HP} {dd : Option Tmp} {T : TypeId} {pos : String} {af : Array Edge} {x y : Operand} {v u : Value} {t ty e : TypeId} {k : IntKind} {a b : Int} {cs ys : List Value} {bl o sz len m : Nat} {g : Option (Nat × Bool)} {out : Nat × Value → List HP}
theorem NewW.box {el : TypeId} (hx : ev F x = some v) (hv : v.cells = cs.toArray) (ho : ∀ p, out p = .blk p.1 cs.toArray el :: A) : NewW P w0 S0 n F A out ⟨dd, .box el x, T, pos, af, g⟩ (fun p => ptr p.1 0) := by
  refine ⟨fun Q K a w ha hst hK => ?_⟩
  have hrun : (execOp a.eval ⟨dd, .box el x, T, pos, af, g⟩).run P w = .ok (.value (ptr w.heap.size 0)) (w.alloc (.cells cs.toArray el)) := by
    simp [execOp, ha.eval hx, Instr.box, newVar, newRow, hv]
  unfold Oper.wp
  rw [hrun]
  exact hK (w.heap.size, undef) _ (by rw [ho]; exact hst.newBlk _ _)
theorem NewW.alloc {el : TypeId} {z : Value} (hz : zvB P el = some z) (hv : z.cells = cs.toArray) (ho : ∀ p, out p = .blk p.1 cs.toArray el :: A) : NewW P w0 S0 n F A out ⟨dd, .alloc el, T, pos, af, g⟩ (fun p => ptr p.1 0) := by
  refine ⟨fun Q K a w ha hst hK => ?_⟩
  have hrun : (execOp a.eval ⟨dd, .alloc el, T, pos, af, g⟩).run P w = .ok (.value (ptr w.heap.size 0)) (w.alloc (.cells cs.toArray el)) := by
    simp [execOp, Instr.alloc, runZv hz, newVar, newRow, hv]
  unfold Oper.wp
  rw [hrun]
  exact hK (w.heap.size, undef) _ (by rw [ho]; exact hst.newBlk _ _)
theorem NewW.buildSlice {parts : List (Nat × Operand)} {len : Nat} {e : TypeId} {sz : Nat} {z : Value} {vs : List Value} (hu : P.underlying t = some (.slice e)) (hz : szB P e = some sz) (hzv : zvB P e = some z) (hzs : Nat.beq z.cells.size sz = true)
    (hi : parts.map (·.1) = List.range len) (hvs : evs F (parts.map (·.2)) = some vs) (hf : Flat sz vs cs) (hlen : Nat.beq vs.length len = true) (hsmall : Nat.ble (len * sz) (2 ^ 24) = true) (ho : ∀ p, out p = .blk p.1 cs.toArray e :: A) :
    NewW P w0 S0 n F A out ⟨dd, .buildSlice t len parts.toArray, T, pos, af, g⟩ (fun p => .slice (some ⟨p.1, 0, none⟩) len len) := by
  have hlen := Nat.eq_of_beq_eq_true hlen
  have hzs := Nat.eq_of_beq_eq_true hzs
  have hsmall := Nat.le_of_ble_eq_true hsmall
  refine ⟨fun Q K a w ha hst hK => ?_⟩
  have hvals : ∀ (l : List (Nat × Operand)) (vs : List Value), evs F (l.map (·.2)) = some vs → l.map (fun p => (p.1, a.eval p.2)) = (l.map (·.1)).zip vs := by
    intro l
    induction l with
    | nil => intro vs h; simp [evs] at h; simp [h]
    | cons p r ih =>
      intro vs h
      simp only [List.map_cons, evs] at h
      cases ht : ev F p.2 with
      | none => simp [ht] at h
      | some u =>
        cases hr : evs F (r.map (·.2)) with
        | none => simp [ht, hr] at h
        | some us => simp [ht, hr] at h; subst h; simp [ha.eval ht, ih us hr]
  have hzip : (List.range len).zip vs = (vs.zipIdx 0).map fun p => (p.2, p.1) := by
    have key : ∀ (vs : List Value) (j : Nat), (List.range' j vs.length).zip vs = (vs.zipIdx j).map fun p => (p.2, p.1) := by
      intro vs
      induction vs with
      | nil => intro j; rfl
      | cons v vs ih => intro j; simp [List.range'_succ, ih (j + 1)]
    rw [← hlen, List.range_eq_range']; exact key vs 0
  have hfill : Instr.fill (fun i => some (i * sz, sz)) ((Array.range (len * sz)).map ((if len * sz = 0 then #[] else z.cells)[· % (if len * sz = 0 then #[] else z.cells).size]!)) (parts.map fun p => (p.1, a.eval p.2)) = some cs.toArray := by
    rw [hvals parts vs hvs, hi, hzip]
    have er : ∀ f : Nat → Value, (Array.range (len * sz)).map f = ((List.range (len * sz)).map f).toArray := fun f => by apply Array.ext'; simp
    rw [er]
    have := fill_flat hf 0 ((List.range (len * sz)).map ((if len * sz = 0 then #[] else z.cells)[· % (if len * sz = 0 then #[] else z.cells).size]!)) (by simp [hlen])
    simpa using this
  have hrun : (execOp a.eval ⟨dd, .buildSlice t len parts.toArray, T, pos, af, g⟩).run P w = .ok (.value (.slice (some ⟨w.heap.size, 0, none⟩) len len)) (w.alloc (.cells cs.toArray e)) := by
    have hs : ¬ (2 ^ 24 < len * sz) := by omega
    by_cases h0 : len * sz = 0
    · simp only [h0, ↓reduceIte] at hfill
      simp [execOp, Instr.buildSlice, run_underlying hu, runSz hz, h0, newRow]
      rw [show (Array.map (fun _ => (default : Value)) (Array.range 0)) = Array.map (fun x => (#[] : Array Value)[x % (#[] : Array Value).size]!) (Array.range 0) from rfl, hfill]
      simp
    · simp only [h0, ↓reduceIte] at hfill
      simp [execOp, Instr.buildSlice, run_underlying hu, runSz hz, h0, runZv hzv, newRow, hs]
      rw [hfill]
      simp
  unfold Oper.wp
  rw [hrun]
  exact hK (w.heap.size, undef) _ (by rw [ho]; exact hst.newBlk _ _)
/-- The front of an own slice. -/
theorem own_front {w : World} {S : BSet} {e len n : Nat} {v : Value} {cs ys : List Value} (h : Sees w S (.own e 1 v len (cs ++ ys))) (hn : cs.length = n) (hl : n ≤ len) : Sees w S (.row 1 (subSl 1 0 n v) n cs) := by
  have := (h.own).subRow (lo := 0) (hi := n) (Nat.zero_le _) hl
  subst hn
  simpa using this
/-- Arrays behind a pointer. -/
theorem EvW.idxArr {num : Nat} (hx : ev F x = some (ptr bl o)) (hy : ev F y = some (.int k a)) (hu : P.underlying t = some (.array num e)) (hz : szB P e = some sz) (h0 : 0 ≤ a) (h1 : a < num) :
    EvW P w0 S0 n F A ⟨dd, .indexAddr t x y, T, pos, af, g⟩ (ptr bl (o + a.toNat * sz)) :=
  .pure fun a' w ha _ => by
    simp [execOp, Instr.indexAt, ha.eval hx, ha.eval hy, asIntOf, run_underlying hu, h0, h1, runSz hz, add_at, Instr.sureAddr]
theorem EvW.ldBlk {q : Value} {U : TypeId} (hx : ev F x = some (ptr bl o)) (hs : scalB P t = true) (ht : Take (.blk bl cs.toArray U) A r) (hc : cs[o]? = some q) : EvW P w0 S0 n F A ⟨dd, .load t x, T, pos, af, g⟩ q :=
  .pure fun a' w ha hst => by simp [execOp, ha.eval hx, runLoadScal hs ((hst.blk ht).cell (o := o) (v := q) (by rw [List.getElem?_toArray]; exact hc))]
/-- make, of one-celled elements. -/
theorem NewW.make1 {bts : Nat} {z : Value} {k1 k2 : IntKind} (hx : ev F x = some (.int k1 a)) (hy : ev F y = some (.int k2 a)) (hu : P.underlying t = some (.slice e)) (hz : szB P e = some 1) (hb : byB P e = some bts) (hzv : zvB P e = some z) (hz1 : z.cells = #[z])
    (h0 : 0 ≤ a) (hm : a ≤ 140737488355328) (hroom : a.toNat * bts ≤ 140737488355328) (ho : ∀ p, out p = .own e 1 p.2 a.toNat (List.replicate a.toNat z) :: A) : NewW P w0 S0 n F A out ⟨dd, .makeSlice t x y, T, pos, af, g⟩ (fun p => p.2) := by
  refine ⟨fun Q K act w ha hst hK => ?_⟩
  obtain ⟨c, rfl⟩ := Int.eq_ofNat_of_zero_le h0
  simp only [Int.toNat_natCast] at hroom ho
  obtain ⟨inf, hinf, hby⟩ : ∃ inf, P.info? e = some inf ∧ inf.bytes = bts := by
    unfold byB at hb
    cases h : P.info? e with
    | none => simp [h] at hb
    | some i => simp [h] at hb; exact ⟨i, rfl, hb⟩
  subst hby
  have hwr : IntKind.i64.wrap (c : Int) = c := wrap_in _ (i64_in (by omega) (by omega))
  have hti : ∀ w' : World, (typeInfo e).run P w' = .ok inf w' := fun w' => run_typeInfo w' hinf
  have hroom' : ((inf.bytes : Int) * c) ≤ 140737488355328 := by
    have : ((c * inf.bytes : Nat) : Int) ≤ ((140737488355328 : Nat) : Int) := Int.ofNat_le.2 hroom
    rw [Int.mul_comm]; rw [Int.natCast_mul] at this; exact this
  have hnl : ¬ ((c : Int) < 0) := by omega
  have hcells : (Array.range c).map (fun i => (if c = 0 then (#[] : Array Value) else z.cells)[i % (if c = 0 then (#[] : Array Value) else z.cells).size]!) = (List.replicate c z).toArray := by
    by_cases hc0 : c = 0
    · subst hc0; exact Array.ext' (by simp)
    · simp only [hc0, ↓reduceIte, hz1]
      apply Array.ext'
      simp [List.map_const', Nat.mod_one]
  have hrun : (Instr.makeSlice t (.int k1 c) (.int k2 c)).run P w = .ok (.slice (some ⟨w.heap.size, 0, none⟩) c c) (w.alloc (.cells (List.replicate c z).toArray e)) := by
    by_cases hc0 : c = 0
    · subst hc0
      have hw0 : IntKind.i64.wrap 0 = 0 := hwr
      have hr0 : ∀ f : Nat → Value, Array.map f (Array.range 0) = #[] := fun f => Array.ext' (by simp)
      simp [Instr.makeSlice, run_underlying hu, asInt, asIntOf, hti, hw0, runSz hz, newRow, hr0]
    · simp only [hc0, ↓reduceIte] at hcells
      simp [Instr.makeSlice, run_underlying hu, asInt, asIntOf, hti, hwr, hnl, runSz hz, hc0, runZv hzv, newRow, hcells]
      intro hh; exfalso; omega
  have hex : (execOp act.eval ⟨dd, .makeSlice t x y, T, pos, af, g⟩).run P w = .ok (.value (.slice (some ⟨w.heap.size, 0, none⟩) c c)) (w.alloc (.cells (List.replicate c z).toArray e)) := by
    simp only [execOp, ha.eval hx, ha.eval hy, Sem.run_bind, hrun]; rfl
  unfold Oper.wp
  rw [hex]
  refine hK (0, .slice (some ⟨w.heap.size, 0, none⟩) c c) _ ?_
  rw [ho]
  refine (hst.newBlk _ _).mono fun S w2 h => star_mono h (fun S' h' => ?_) fun _ h => h
  have h2 : (HP.blk w.heap.size (List.replicate c z ++ []).toArray e).sat S' w2 := by rw [List.append_nil]; exact h'
  exact blk_own h2 (by simp) (Nat.le_refl _) (by simp)
/-- A store into an element of a slice of the call's own. -/
theorem EffW.stOwn {A' : List HP} {ee : TypeId} {i off : Nat} (hx : ev F x = some (elemP sz v i off)) (hy : ev F y = some u) (hv : u.cells = ys.toArray) (hz : szB P t = some ys.length) (h1 : ys.all (·.oneCell') = true) (hpos : Nat.ble 1 ys.length = true) (ht : Take (.own ee sz v len cs) A r) (hl : i * sz + off + ys.length ≤ cs.length)
    (ht' : Take (.own ee sz v len (over cs (i * sz + off) ys)) A' r) : EffW P w0 S0 n F A A' ⟨none, .store t x y, T, pos, af, g⟩ undef := by
  refine ⟨fun Q K a w ha hst hK => ?_⟩
  obtain ⟨S, hs1, hs2, hs3⟩ := id hst
  obtain ⟨S1, S2, hu, hd, ⟨hcl, h⟩, h5⟩ := ht.star hs1
  rcases h with ⟨h3, h4, h6⟩ | ⟨b, cap, sp, h3, h4, h6, hS1, lo, hi, hh, hfr⟩
  · subst h4
    exfalso
    have := Nat.le_of_ble_eq_true hpos
    simp at hcl; subst hcl
    simp at hl; simp [hl] at this
  · subst h3
    have hle : (i * sz + off) + ys.length ≤ (cs ++ sp).length := by simp; omega
    have hx' : a.eval x = ptr b (i * sz + off) := by rw [ha.eval hx]; simp [elemP]
    have hrun : (execOp a.eval ⟨none, .store t x y, T, pos, af, g⟩).run P w = .ok .skip { w with heap := w.heap.setIfInBounds b (.cells (over (cs ++ sp) (i * sz + off) ys).toArray ee (lo, hi)) } := by
      simp [execOp, hx', ha.eval hy, runStoreAt hz hv h1 hh (by simpa using hfr) hle]
    have hov : over (cs ++ sp) (i * sz + off) ys = over cs (i * sz + off) ys ++ sp := by
      unfold over
      rw [List.take_append_of_le_length (by omega), List.drop_append_of_le_length (by omega)]
      simp
    unfold Oper.wp
    rw [hrun]
    have hA : St w0 S0 (.blk b (cs ++ sp).toArray ee :: r) w := ⟨S, ⟨S1, S2, hu, hd, ⟨hS1, lo, hi, hh, hfr⟩, h5⟩, hs2, hs3⟩
    have hupd : St w0 S0 (.blk b (over (cs ++ sp) (i * sz + off) ys).toArray ee :: r) { w with heap := w.heap.setIfInBounds b (.cells (over (cs ++ sp) (i * sz + off) ys).toArray ee (lo, hi)) } := by
      refine hA.write .head (fun lo' hi' h8 _ => ?_) (over_length hle)
      rw [hh] at h8
      injection h8 with h8
      cases h8
      rfl
    refine hK _ (hupd.mono fun S' w' hs' => ht'.unstar (star_mono hs' (fun S'' h => ?_) fun _ h => h))
    rw [hov] at h
    exact blk_own h (by rw [over_length hl]; exact hcl) h4 (by rw [← hov, over_length hle, h6])
/-- A call that gives new memory. -/
theorem NewW.call {f : FuncId} {args : List Operand} {ats : Array TypeId} {vals : List Value} {A1 A2 : List HP} {R : Value → List HP → Prop} {val : Nat × Value → Value} (post : Nat × Value → List HP) (hargs : evs F args = some vals)
    (hspec : ∀ w S, (sepL A1).sat S w → (∀ B, Sees w0 S0 B → Sees w S B) → (∀ B r, Take B A2 r → Sees w S B) → Tri P f vals.toArray w S R) (hcall : ∀ w, (callFunc f vals.toArray).run P w = .ok (.enter f vals.toArray) w) (ht : TakeL A1 A A2)
    (hR : ∀ v' A', R v' A' → ∃ p, v' = val p ∧ A' = post p) (hA : ∀ p w, St w0 S0 (post p ++ A2) w → St w0 S0 (out p) w) :
    NewW P w0 S0 n F A out ⟨dd, .call ⟨.value (.func f), args.toArray, ats⟩, T, pos, af, g⟩ val := by
  refine ⟨fun Q K a w ha hs hK => ?_⟩
  have hvals := evs_map ha args vals hargs
  obtain ⟨S, h1, h2, h3⟩ := hs
  obtain ⟨S1, S2, hu, hdis, h4, h5⟩ := ht.star h1
  have hsp := (hspec w S1 h4 (fun B hB => hB.down h2 h3 fun b hb => (hu b).2 (.inl hb)) (fun B r tB => by
    obtain ⟨S3, S4, hu', hd', h6, h7⟩ := tB.star h5
    exact ⟨S3, h6, fun b hb hb' => hdis b hb' ((hu' b).2 (.inl hb))⟩)).go
  have hrun : (execOp a.eval ⟨dd, .call ⟨.value (.func f), args.toArray, ats⟩, T, pos, af, g⟩).run P w = .ok (.enter f vals.toArray) w := by
    simp [execOp, resolve, Act.eval, Deferred.ofValue, invoke, hvals, hcall]
  unfold Oper.wp
  rw [hrun]
  refine hsp.mono ?_
  rintro e w' ⟨v', A', rfl, hRR, S', h6, h7, h8⟩
  obtain ⟨p, rfl, rfl⟩ := hR v' A' hRR
  refine hK p w' (hA p w' ?_)
  have hext : Ext S w w' := ⟨h7.os, h7.tape, h7.output, h7.size, fun b hb hnb => h7.keep b hb fun h => hnb ((hu b).2 (.inl h))⟩
  refine ⟨fun b => S' b ∨ S2 b, sepL_append ⟨S', S2, fun _ => Iff.rfl, fun b hb hb2 => ?_, h6, (sepL A2).loc h5 fun b hb => h7.keep b ((sepL A2).bnd h5 hb) fun h => hdis b h hb⟩, h2.step hext h3, fun b hb => ?_⟩
  · rcases h8 b hb with h | h
    · exact hdis b h hb2
    · have := (sepL A2).bnd h5 hb2; omega
  · rcases hb with hb | hb
    · rcases h8 b hb with h | h
      · exact h3 b ((hu b).2 (.inl h))
      · exact .inr (Nat.le_trans h2.size h)
    · exact h3 b ((hu b).2 (.inr hb))
/-- A call that gives back what it took. -/
theorem EvW.callB {f : FuncId} {args : List Operand} {ats : Array TypeId} {vals : List Value} {A1 A2 : List HP} {R : Value → List HP → Prop} (hargs : evs F args = some vals)
    (hspec : ∀ w S, (sepL A1).sat S w → (∀ B, Sees w0 S0 B → Sees w S B) → (∀ B r, Take B A2 r → Sees w S B) → Tri P f vals.toArray w S R) (hcall : ∀ w, (callFunc f vals.toArray).run P w = .ok (.enter f vals.toArray) w) (ht : TakeL A1 A A2)
    (hR : ∀ v' A', R v' A' → v' = v ∧ A' = A1) : EvW P w0 S0 n F A ⟨dd, .call ⟨.value (.func f), args.toArray, ats⟩, T, pos, af, g⟩ v :=
  ⟨(EffW.callT (A' := A) hargs hspec hcall ht hR (fun _ h => h.mono fun S w hs => ht.unstar (sepL_unappend hs))).go⟩
theorem NewW.callA {f : FuncId} {args : List Operand} {ats : Array TypeId} {vals : List Value} (A1 : List HP) {A2 : List HP} {R : Value → List HP → Prop} {val : Nat × Value → Value} (post : Nat × Value → List HP) (hargs : evs F args = some vals) (hcall : ∀ w, (callFunc f vals.toArray).run P w = .ok (.enter f vals.toArray) w) (ht : TakeL A1 A A2)
    (hspec : ∀ w S, (sepL A1).sat S w → (∀ B, Sees w0 S0 B → Sees w S B) → (∀ B r, Take B A2 r → Sees w S B) → Tri P f vals.toArray w S R)
    (hR : ∀ v' A', R v' A' → ∃ p, v' = val p ∧ A' = post p) (hA : ∀ p w, St w0 S0 (post p ++ A2) w → St w0 S0 (out p) w) :
    NewW P w0 S0 n F A out ⟨dd, .call ⟨.value (.func f), args.toArray, ats⟩, T, pos, af, g⟩ val := .call post hargs hspec hcall ht hR hA
theorem EffW.callA {f : FuncId} {args : List Operand} {ats : Array TypeId} {vals : List Value} (A1 : List HP) {A' A2 A3 : List HP} {R : Value → List HP → Prop} (hargs : evs F args = some vals) (hcall : ∀ w, (callFunc f vals.toArray).run P w = .ok (.enter f vals.toArray) w) (ht : TakeL A1 A A2)
    (hspec : ∀ w S, (sepL A1).sat S w → (∀ B, Sees w0 S0 B → Sees w S B) → (∀ B r, Take B A2 r → Sees w S B) → Tri P f vals.toArray w S R)
    (hR : ∀ v' A', R v' A' → v' = v ∧ A' = A3) (hA : ∀ w, St w0 S0 (A3 ++ A2) w → St w0 S0 A' w) :
    EffW P w0 S0 n F A A' ⟨dd, .call ⟨.value (.func f), args.toArray, ats⟩, T, pos, af, g⟩ v := .callT hargs hspec hcall ht hR hA
/-- The same tokens in another order, the rest unknown; some may be let go. -/
inductive TakeT : List HP → List HP → Prop
  | tail {R : List HP} : TakeT R R
  | cons {x : HP} {xs A A' : List HP} : Take x A A' → TakeT xs A' → TakeT (x :: xs) A
  | drop {y : HP} {xs A : List HP} : TakeT xs A → TakeT xs (y :: A)
theorem TakeT.st {w0 w : World} {S0 : BSet} {xs A : List HP} (t : TakeT xs A) (h : St w0 S0 A w) : St w0 S0 xs w := by
  have key : ∀ {xs A : List HP}, TakeT xs A → ∃ D, ∀ S w, (sepL A).sat S w → (sepL (xs ++ D)).sat S w := by
    intro xs A t
    induction t with
    | tail => exact ⟨[], fun S w h => by rw [List.append_nil]; exact h⟩
    | cons t _ ih =>
      obtain ⟨D, hD⟩ := ih
      exact ⟨D, fun S w h => star_mono (t.star h) (fun _ h => h) fun _ h => hD _ _ h⟩
    | @drop y xs A _ ih =>
      obtain ⟨D, hD⟩ := ih
      exact ⟨y :: D, fun S w h => sepL_append (star_swap (star_mono h (fun _ h => h) fun _ h => sepL_unappend (hD _ _ h)))⟩
  obtain ⟨D, hD⟩ := key t
  refine h.turn fun S hs => ?_
  obtain ⟨S1, S2, hu, _, h1, _⟩ := sepL_unappend (hD S w hs)
  exact ⟨S1, h1, .refl _ _, fun b hb => .inl ((hu b).2 (.inl hb))⟩
theorem Tri.ofBelow {f : FuncId} {args : Array Value} {w : World} {S : BSet} (h : Calls P f args w fun e w' => e = .returned v ∧ Below w.heap.size w w') : Tri P f args w S fun u A => u = v ∧ A = [] :=
  ⟨h.mono fun e w' ⟨h1, h2⟩ => ⟨v, [], h1, ⟨rfl, rfl⟩, fun _ => False, fun _ h => h, ⟨h2.os, h2.tape, h2.output, h2.size, fun b hb _ => h2.block b hb⟩, fun _ h => h.elim⟩⟩
theorem Tri.ofSame {f : FuncId} {args : Array Value} {w : World} {S : BSet} (h : Calls P f args w fun e w' => e = .returned v ∧ w' = w) : Tri P f args w S fun u A => u = v ∧ A = [] :=
  .ofBelow (h.mono fun e w' ⟨h1, h2⟩ => ⟨h1, by subst h2; exact Below.refl _ _⟩)
end
end Go.BK
