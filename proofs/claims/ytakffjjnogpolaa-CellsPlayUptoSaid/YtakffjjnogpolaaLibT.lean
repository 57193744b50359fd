/- A struct of ints against itself. No program in sight. -/
import Derived.Test.YtakffjjnogpolaaLibS
namespace Go.BK
open Go.RowKit

section
variable {P : Program} {w0 : World} {S0 : BSet} {n : Nat} {F : Fr} {A : List HP} {dd : Option Tmp} {T : TypeId} {pos : String} {af : Array Edge} {x y : Operand} {t ty : TypeId} {g : Option (Nat × Bool)}
theorem runPart {w : World} {k : IntKind} {cs : Array Value} {off : Nat} {v : Value} (hu : P.underlying t = some (.int k)) (h : cs[off]? = some v) : (part t cs off).run P w = .ok v w := by simp [part, isAgg, run_underlying hu, h]
theorem runEqInt {w : World} {k k' : IntKind} {a : Int} (d : Nat) (hu : P.underlying t = some (.int k)) : (Op.equalIn (d + 1) t (.int k' a) (.int k' a)).run P w = .ok true w := by simp [Op.equalIn, run_underlying hu]
theorem runForYield {α β : Type} {w : World} {body : α → β → Sem (ForInStep β)} {s : β} : ∀ (l : List α), (∀ f ∈ l, (body f s).run P w = .ok (.yield s) w) → (forIn l s body).run P w = .ok s w
  | [], _ => by simp
  | f :: l, h => by
    rw [List.forIn_cons]
    simp only [Sem.run_bind, h f (by simp), Result.andThen]
    exact runForYield l fun g hg => h g (by simp [hg])
theorem runEqAgg {w : World} {fs : List Field} {l : List Value} (hu : P.underlying t = some (.struct fs.toArray)) (hst : P.stoodInHeld t = false) (hf : ∀ f ∈ fs, f.name ≠ "_" ∧ (∃ k, P.underlying f.type = some (.int k)) ∧ ∃ k a, l[f.offset]? = some (.int k a)) :
    (Op.equal t (.agg l.toArray) (.agg l.toArray)).run P w = .ok true w := by
  have key : ∀ d, (Op.equalIn (d + 2) t (.agg l.toArray) (.agg l.toArray)).run P w = .ok true w := fun d => by
    rw [Op.equalIn]
    simp only [Sem.run_bind, run_underlying hu, Result.andThen]
    have hp : Sem.run P program w = .ok P w := rfl
    simp only [hp, hst, Bool.false_eq_true, ↓reduceIte, List.forIn_toArray, Sem.run_bind]
    rw [runForYield]
    · rfl
    · intro f hf'
      obtain ⟨h1, ⟨k, h2⟩, k', a, h3⟩ := hf f hf'
      rw [if_pos h1]
      simp only [Sem.run_bind, runPart h2 (show l.toArray[f.offset]? = _ by simpa using h3), Result.andThen, runEqInt d h2]
      rfl
  exact key 9998
def isIntT : Option TypeDesc → Bool
  | some (.int _) => true
  | _ => false
def isIntV : Option Value → Bool
  | some (.int _ _) => true
  | _ => false
/-- The places of the ints of a struct of ints. -/
def intsB (P : Program) (t : TypeId) : Option (List Nat) := match P.underlying t with
  | some (.struct fs) => bif !P.stoodInHeld t && !P.eqGuardType P.depth t && fs.toList.all (fun f => f.name != "_" && isIntT (P.underlying f.type)) then some (fs.toList.map (·.offset)) else none
  | _ => none
theorem intsB_get {offs : List Nat} {l : List Value} (hB : intsB P t = some offs) (hl : offs.all (fun o => isIntV (getL l o)) = true) :
    P.eqGuardType P.depth t = false ∧ ∀ w, (Op.equal t (.agg l.toArray) (.agg l.toArray)).run P w = .ok true w := by
  unfold intsB at hB
  cases hu : P.underlying t with
  | none => simp [hu] at hB
  | some d =>
    cases d with
    | struct fs =>
      rw [hu] at hB
      dsimp only at hB
      cases hc : (!P.stoodInHeld t && !P.eqGuardType P.depth t && fs.toList.all (fun f => f.name != "_" && isIntT (P.underlying f.type))) with
      | false => rw [hc] at hB; exact absurd hB (by simp)
      | true =>
        rw [hc, cond_true, Option.some.injEq] at hB
        subst hB
        rw [Bool.and_eq_true, Bool.and_eq_true] at hc
        obtain ⟨⟨h1, h2⟩, h3⟩ := hc
        refine ⟨by simpa using h2, fun w => runEqAgg (fs := fs.toList) (by simpa using hu) (by simpa using h1) fun f hf => ?_⟩
        have h4 := List.all_eq_true.1 h3 f hf
        rw [Bool.and_eq_true] at h4
        have h5 := List.all_eq_true.1 hl f.offset (List.mem_map.2 ⟨f, hf, rfl⟩)
        refine ⟨by simpa using h4.1, ?_, ?_⟩
        · revert h4
          cases P.underlying f.type with
          | none => intro h; exact absurd h.2 (by simp [isIntT])
          | some d => cases d <;> intro h <;> first | exact ⟨_, rfl⟩ | exact absurd h.2 (by simp [isIntT])
        · rw [getL_eq] at h5
          revert h5
          cases l[f.offset]? with
          | none => intro h; exact absurd h (by simp [isIntV])
          | some v => cases v <;> intro h <;> first | exact ⟨_, _, rfl⟩ | exact absurd h (by simp [isIntV])
    | _ => simp [hu] at hB
/-- A struct of ints against the same. -/
theorem EvW.eqAggS {offs : List Nat} {l : List Value} (hx : ev F x = some (.agg l.toArray)) (hy : ev F y = some (.agg l.toArray)) (hB : intsB P t = some offs) (hl : offs.all (fun o => isIntV (getL l o)) = true) : EvW P w0 S0 n F A ⟨dd, .binOp .eql t x y ty, T, pos, af, g⟩ (.bool true) :=
  .pure fun a' w ha _ => by
    obtain ⟨h1, h2⟩ := intsB_get hB hl
    simp [execOp, ha.eval hx, ha.eval hy, eqGuard, h1, binOp, h2]
theorem EvW.neAggS {offs : List Nat} {l : List Value} (hx : ev F x = some (.agg l.toArray)) (hy : ev F y = some (.agg l.toArray)) (hB : intsB P t = some offs) (hl : offs.all (fun o => isIntV (getL l o)) = true) : EvW P w0 S0 n F A ⟨dd, .binOp .neq t x y ty, T, pos, af, g⟩ (.bool false) :=
  .pure fun a' w ha _ => by
    obtain ⟨h1, h2⟩ := intsB_get hB hl
    simp [execOp, ha.eval hx, ha.eval hy, eqGuard, h1, binOp, h2]
/-- A cut: behind the first part go on once, from what is said of it. -/
theorem WC.mid {σ : Type} (Fm : σ → Fr) (Am : σ → List HP) (I : σ → Prop) {x y : Code} {Q : Exit → Act → World → Prop} (h1 : WC P w0 S0 n x (Exit.then (fun a w => ∃ s, I s ∧ Agr n (Fm s) a ∧ St w0 S0 (Am s) w) Q) F A) (h2 : ∀ s, I s → WC P w0 S0 n y Q (Fm s) (Am s)) : WC P w0 S0 n x (Exit.then (y.wp P Q) Q) F A :=
  ⟨fun a w ha hs => Code.wp_mono (fun e a w h => by
    cases e with
    | normal =>
      obtain ⟨s, hI, h3, h4⟩ := h
      exact (h2 s hI).go a w h3 h4
    | _ => exact h) (h1.go a w ha hs)⟩
theorem WE.mid {σ : Type} {Fm : σ → Fr} {Am : σ → List HP} {I : σ → Prop} {Q : Exit → Act → World → Prop} (s : σ) (hI : I s) (hF : Sub (Fm s) F) (hA : ∀ w, St w0 S0 A w → St w0 S0 (Am s) w) : WE w0 S0 n (Exit.then (fun a w => ∃ s, I s ∧ Agr n (Fm s) a ∧ St w0 S0 (Am s) w) Q) .normal F A :=
  ⟨fun _ w ha hs => ⟨s, hI, ha.sub hF, hA w hs⟩⟩
end
end Go.BK
