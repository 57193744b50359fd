/- Results that lie in a cell; function values; whole structs stored and loaded. No program in sight. -/
import Derived.Test.YtakffjjnogpolaaLibQ
import Derived.Test.YtakffjjnogpolaaLibL
namespace Go.BK
open Go.RowKit

section
variable {P : Program} {w0 : World} {S0 : BSet} {n : Nat} {F : Fr} {A A' r : List HP} {ops : Array Oper} {Q : Exit → Act → World → Prop} {rest : List Oper} {d : Nat} {T : TypeId} {pos : String} {af : Array Edge} {x y : Operand} {v u : Value} {t ty e U : TypeId} {k : IntKind} {a b : Int} {cs ys : List Value} {bl o sz len m : Nat} {dd : Option Tmp} {g : Option (Nat × Bool)}
theorem runLoadVar {w : World} {l : List Value} (hag : aggB P T = true) (hm : szB P T = some l.length) (hb : blkAt bl l.toArray U w) : (loadVar T ⟨bl, 0, none⟩).run P w = .ok (.agg l.toArray) w := by
  have h := runLoadAgg (P := P) (w := w) (t := T) (o := 0) hag hm hb (by simp)
  unfold Instr.loadAt at h
  simp only [Instr.sureAddr, Sem.run_bind, Sem.run_pure, Result.andThen] at h
  rw [h]
  simp
/-- One result, that lies in a cell. -/
theorem WE.retC {fn : Func} {t : Nat} {R : Value → List HP → Prop} {l : List Value} (hr : fn.results = #[.cell t T]) (hv : F.get t = some (ptr bl 0)) (ht : Take (.blk bl l.toArray U) A r) (hag : aggB P T = true) (hm : szB P T = some l.length) (k : ∀ w, St w0 S0 A w → St w0 S0 A' w) (h : R (.agg l.toArray) A') :
    WE w0 S0 n (bodyPost P fn (RetSt w0 S0 R)) .ret F A :=
  ⟨fun act w ha hs => bodyPost_ret (v := .agg l.toArray) (by
    have hl := runLoadVar (P := P) (w := w) hag hm (hs.blk ht)
    have hg : act.tmps.getD t undef = ptr bl 0 := by rw [Array.getD_eq_getD_getElem?, ha.get t _ hv]; rfl
    rw [Array.getD_eq_getD_getElem?] at hg
    simp [results, hr, hg, asAddr, hl]) ha.defers ⟨_, A', rfl, h, k w hs⟩⟩
/-- Two results, the first in a cell. -/
theorem WE.retC2 {fn : Func} {t t' : Nat} {R : Value → List HP → Prop} {l : List Value} (hr : fn.results = #[.cell t T, .tmp t']) (hv : F.get t = some (ptr bl 0)) (hv' : F.get t' = some v) (ht : Take (.blk bl l.toArray U) A r) (hag : aggB P T = true) (hm : szB P T = some l.length) (k : ∀ w, St w0 S0 A w → St w0 S0 A' w) (h : R (.tuple #[.agg l.toArray, v]) A') :
    WE w0 S0 n (bodyPost P fn (RetSt w0 S0 R)) .ret F A :=
  ⟨fun act w ha hs => bodyPost_ret (v := .tuple #[.agg l.toArray, v]) (by
    have hl := runLoadVar (P := P) (w := w) hag hm (hs.blk ht)
    have hg : act.tmps.getD t undef = ptr bl 0 := by rw [Array.getD_eq_getD_getElem?, ha.get t _ hv]; rfl
    have hg' : act.tmps.getD t' undef = v := by rw [Array.getD_eq_getD_getElem?, ha.get t' _ hv']; rfl
    rw [Array.getD_eq_getD_getElem?] at hg hg'
    simp [results, hr, hg, hg', asAddr, hl]) ha.defers ⟨_, A', rfl, h, k w hs⟩⟩
/-- A function value. -/
theorem EvW.makeFunc {f : FuncId} {caps : List Operand} {vs : List Value} (hv : evs F caps = some vs) : EvW P w0 S0 n F A ⟨dd, .makeFunc (.func f) #[] caps.toArray, T, pos, af, g⟩ (.func (.func f) #[] vs.toArray) :=
  .pure fun a' w ha _ => by
    have := evs_map ha caps vs hv
    simp [execOp, Instr.makeFunc, this]
/-- A call of a function value. -/
theorem WL.callV {f : FuncId} {z : Operand} {caps : List Value} {args : List Operand} {ats : Array TypeId} {vals : List Value} (A1 : List HP) {R : Value → List HP → Prop}
    (hn : Nat.blt d n = true) (hz : ev F z = some (.func (.func f) #[] caps.toArray)) (hargs : evs F args = some vals) (hcall : ∀ w, (callFunc f (vals ++ caps).toArray).run P w = .ok (.enter f (vals ++ caps).toArray) w) (ht : TakeL A1 A A')
    (hspec : ∀ w S, (sepL A1).sat S w → (∀ B, Sees w0 S0 B → Sees w S B) → (∀ B r, Take B A' r → Sees w S B) → Tri P f (vals ++ caps).toArray w S R)
    (kk : ∀ v A2, R v A2 → WL P w0 S0 n ops Q rest ((d, v) :: F) (A2 ++ A')) :
    WL P w0 S0 n ops Q (⟨some d, .call ⟨.value z, args.toArray, ats⟩, T, pos, af, none⟩ :: rest) F A := by
  refine .step (fun act w ha hs K hK => ?_) rfl
  have hvals := evs_map ha args vals hargs
  obtain ⟨S, h1, h2, h3⟩ := hs
  obtain ⟨S1, S2, hu, hdis, h4, h5⟩ := ht.star h1
  have hsp := (hspec w S1 h4 (fun B hB => hB.down h2 h3 fun b hb => (hu b).2 (.inl hb)) (fun B r tB => by
    obtain ⟨S3, S4, hu', hd', h6, h7⟩ := tB.star h5
    exact ⟨S3, h6, fun b hb hb' => hdis b hb' ((hu' b).2 (.inl hb))⟩)).go
  have hrun : (execOp act.eval ⟨some d, .call ⟨.value z, args.toArray, ats⟩, T, pos, af, none⟩).run P w = .ok (.enter f (vals ++ caps).toArray) w := by
    have hc := hcall w
    have e2 : vals.toArray ++ caps.toArray = (vals ++ caps).toArray := by simp
    have e1 : (args.toArray.map act.eval) = vals.toArray := by simp [hvals]
    simp only [execOp, resolve, e1, ha.eval hz, Deferred.ofValue, Sem.run_bind, Sem.run_pure, Result.andThen, invoke, Array.empty_append, e2]
    exact hc
  unfold Oper.wp
  rw [hrun]
  refine hsp.mono ?_
  rintro e w' ⟨v, A2, rfl, hR, S', h6, h7, h8⟩
  refine hK _ _ ((kk v A2 hR).go _ _ (ha.put (by simpa using hn) v) ?_)
  have hext : Ext S w w' := ⟨h7.os, h7.tape, h7.output, h7.size, fun b hb hnb => h7.keep b hb fun h => hnb ((hu b).2 (.inl h))⟩
  refine ⟨fun b => S' b ∨ S2 b, sepL_append ⟨S', S2, fun _ => Iff.rfl, fun b hb hb2 => ?_, h6, (sepL A').loc h5 fun b hb => h7.keep b ((sepL A').bnd h5 hb) fun h => hdis b h hb⟩, h2.step hext h3, fun b hb => ?_⟩
  · rcases h8 b hb with h | h
    · exact hdis b h hb2
    · have := (sepL A').bnd h5 hb2; omega
  · rcases hb with hb | hb
    · rcases h8 b hb with h | h
      · exact h3 b ((hu b).2 (.inl h))
      · exact .inr (Nat.le_trans h2.size h)
    · exact h3 b ((hu b).2 (.inr hb))
/-- A cell of a block that is only read. -/
theorem EvW.ldSeen {q : Value} (hx : ev F x = some (ptr bl o)) (hs : scalB P t = true) (hB : Sees w0 S0 (.blk bl cs.toArray U)) (hc : getL cs o = some q) : EvW P w0 S0 n F A ⟨dd, .load t x, T, pos, af, g⟩ q :=
  .loadSees hx hs hB fun R w h => h.2.cell (by rw [List.getElem?_toArray, ← getL_eq]; exact hc)
/-- An int of a list of things: a cell of an element. -/
theorem EvW.ldFld {α : Type} {xs : List α} {f : α → List Value} {i off : Nat} {q : Value} (hx : ev F x = some (elemP sz v i off)) (hs : scalB P t = true) (hB : Sees w0 S0 (.row sz v len (xs.flatMap f))) (hI : Inhabited α) (hf : ∀ a, (f a).length = sz) (hi : i < xs.length) (hq : getL (f (xs.getD i default)) off = some q) : EvW P w0 S0 n F A ⟨dd, .load t x, T, pos, af, g⟩ q :=
  .ldRow hx hs hB (by
    have h := flat_get (z := default) hf hi
    rw [getL_eq] at hq
    have hlt : off < sz := by rw [← hf (xs.getD i default)]; exact (List.getElem?_eq_some_iff.1 hq).1
    rw [← h, List.getElem?_take_of_lt hlt, List.getElem?_drop] at hq
    exact hq)
end
end Go.BK
