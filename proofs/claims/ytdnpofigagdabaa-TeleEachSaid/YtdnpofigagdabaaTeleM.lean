/- What a payload says, in one form for both. -/
import Derived.Test.YtdnpofigagdabaaTeleL
namespace Go.Proofs.Ytdnpofigagdabaa
open Go.RowKit Go.BK

theorem tri_turn {P : Program} {f : FuncId} {args : Array Value} {w0 : World} {S0 : BSet} {R R' : Value → List HP → Prop} (h : Tri P f args w0 S0 R) (k : ∀ v A, R v A → ∃ A', R' v A' ∧ ∀ w, St w0 S0 A w → St w0 S0 A' w) : Tri P f args w0 S0 R' :=
  ⟨h.go.mono fun _ _ ⟨v, A, h1, h2, h3⟩ => by
    obtain ⟨A', hR, hs⟩ := k v A h2
    exact ⟨v, A', h1, hR, hs _ h3⟩⟩
def RS (h : Q4) (l : List UInt8) (e : Int) (z : List Int × List Int × List Int × List Int) : Prop :=
  (sGood h l ∧ e = 0 ∧ z = (tpart l 1 h.la.length, tpart l (1 + h.la.length) h.lb.length, tpart l (1 + h.la.length + h.lb.length) h.ly.length, tpart l (1 + h.la.length + h.lb.length + h.ly.length) h.ld.length)) ∨ (¬ sGood h l ∧ e = 3 ∧ z = ([], [], [], []))
def RO (h : Q4) (l : List UInt8) (e : Int) (z : List Int × List Int × List Int) : Prop :=
  (oGood h l ∧ e = 0 ∧ z = (tpart l 1 h.lb.length, tpart l (1 + h.lb.length) h.ld.length, tpart l (1 + h.lb.length + h.ld.length) h.ly.length)) ∨ (¬ oGood h l ∧ e = 3 ∧ z = ([], [], []))
theorem RS.ex (h : Q4) (l : List UInt8) : ∃ e z, RS h l e z := by
  by_cases hg : sGood h l
  · exact ⟨_, _, .inl ⟨hg, rfl, rfl⟩⟩
  · exact ⟨_, _, .inr ⟨hg, rfl, rfl⟩⟩
theorem RO.ex (h : Q4) (l : List UInt8) : ∃ e z, RO h l e z := by
  by_cases hg : oGood h l
  · exact ⟨_, _, .inl ⟨hg, rfl, rfl⟩⟩
  · exact ⟨_, _, .inr ⟨hg, rfl, rfl⟩⟩
theorem RS.le {h : Q4} {l : List UInt8} {e : Int} {z : List Int × List Int × List Int × List Int} (k : RS h l e z) {w : World} {S : BSet} (hh : h.Seen w S) : z.1.length ≤ 17592186044416 ∧ z.2.1.length ≤ 17592186044416 ∧ z.2.2.1.length ≤ 17592186044416 ∧ z.2.2.2.length ≤ 17592186044416 := by
  rcases k with ⟨_, _, rfl⟩ | ⟨_, _, rfl⟩
  · exact ⟨Nat.le_trans (tpart_le _ _ _) hh.na, Nat.le_trans (tpart_le _ _ _) hh.nb, Nat.le_trans (tpart_le _ _ _) hh.ny, Nat.le_trans (tpart_le _ _ _) hh.nd⟩
  · simp
theorem RO.le {h : Q4} {l : List UInt8} {e : Int} {z : List Int × List Int × List Int} (k : RO h l e z) {w : World} {S : BSet} (hh : h.Seen w S) : z.1.length ≤ 17592186044416 ∧ z.2.1.length ≤ 17592186044416 ∧ z.2.2.length ≤ 17592186044416 := by
  rcases k with ⟨_, _, rfl⟩ | ⟨_, _, rfl⟩
  · exact ⟨Nat.le_trans (tpart_le _ _ _) hh.nb, Nat.le_trans (tpart_le _ _ _) hh.nd, Nat.le_trans (tpart_le _ _ _) hh.ny⟩
  · simp
theorem trs_spec (h : Q4) (l : List UInt8) (e : Int) (z : List Int × List Int × List Int × List Int) (w : World) (S : BSet) (hS : (sepL []).sat S w) (hh : h.Seen w S) (hl : l.length ≤ 140737488355328) (k : RS h l e z) :
    Tri Try.prog 18 #[.agg #[(h).a, (h).b, (h).y, (h).d], str l] w S fun u A => ∃ a b y d : Value, u = .tuple #[.agg #[a, b, y, d], i64 e] ∧ A = [.own 3 1 (a) (z.1).length ((z.1).map i64), .own 3 1 (b) (z.2.1).length ((z.2.1).map i64), .own 3 1 (y) (z.2.2.1).length ((z.2.2.1).map i64), .own 3 1 (d) (z.2.2.2).length ((z.2.2.2).map i64)] := by
  rcases k with ⟨hg, rfl, rfl⟩ | ⟨hg, rfl, rfl⟩
  · exact trstatus_good h l w S hS hh hl hg
  · refine tri_turn (trstatus_bad h l w S hS hh hl hg) ?_
    rintro _ _ ⟨rfl, rfl⟩
    exact ⟨_, ⟨_, _, _, _, rfl, rfl⟩, fun w hs => hs.ownNil.ownNil.ownNil.ownNil⟩
theorem rrs_spec (h : Q4) (l : List UInt8) (e : Int) (z : List Int × List Int × List Int × List Int) (w : World) (S : BSet) (hS : (sepL []).sat S w) (hh : h.Seen w S) (hl : l.length ≤ 140737488355328) (k : RS h l e z) :
    Tri Try.prog 19 #[.agg #[(h).a, (h).b, (h).y, (h).d], str l] w S fun u A => ∃ a b y d : Value, u = .tuple #[.agg #[a, b, y, d], i64 e] ∧ A = [.own 3 1 (a) (z.1).length ((z.1).map i64), .own 3 1 (b) (z.2.1).length ((z.2.1).map i64), .own 3 1 (y) (z.2.2.1).length ((z.2.2.1).map i64), .own 3 1 (d) (z.2.2.2).length ((z.2.2.2).map i64)] := by
  rcases k with ⟨hg, rfl, rfl⟩ | ⟨hg, rfl, rfl⟩
  · refine tri_turn (rrstatus_spec h l true w S hS hh hl ⟨fun _ => hg, fun _ => rfl⟩) ?_
    intro v A hR
    exact ⟨A, hR, fun w hs => hs⟩
  · refine tri_turn (rrstatus_spec h l false w S hS hh hl ⟨fun h => (by cases h), fun h => absurd h hg⟩) ?_
    intro v A hR
    obtain ⟨rfl, rfl⟩ := (show v = .tuple #[.agg #[.slice none 0 0, .slice none 0 0, .slice none 0 0, .slice none 0 0], i64 3] ∧ A = [] from hR)
    exact ⟨_, ⟨_, _, _, _, rfl, rfl⟩, fun w hs => hs.ownNil.ownNil.ownNil.ownNil⟩
theorem tro_spec (h : Q4) (l : List UInt8) (e : Int) (z : List Int × List Int × List Int) (w : World) (S : BSet) (hS : (sepL []).sat S w) (hh : h.Seen w S) (hl : l.length ≤ 140737488355328) (k : RO h l e z) :
    Tri Try.prog 20 #[.agg #[(h).a, (h).b, (h).y, (h).d], str l] w S fun u A => ∃ a b y : Value, u = .tuple #[.agg #[a, b, y], i64 e] ∧ A = [.own 3 1 (a) (z.1).length ((z.1).map i64), .own 3 1 (b) (z.2.1).length ((z.2.1).map i64), .own 3 1 (y) (z.2.2).length ((z.2.2).map i64)] := by
  rcases k with ⟨hg, rfl, rfl⟩ | ⟨hg, rfl, rfl⟩
  · exact trorders_good h l w S hS hh hl hg
  · refine tri_turn (trorders_bad h l w S hS hh hl hg) ?_
    rintro _ _ ⟨rfl, rfl⟩
    exact ⟨_, ⟨_, _, _, rfl, rfl⟩, fun w hs => hs.ownNil.ownNil.ownNil⟩
theorem rro_spec (h : Q4) (l : List UInt8) (e : Int) (z : List Int × List Int × List Int) (w : World) (S : BSet) (hS : (sepL []).sat S w) (hh : h.Seen w S) (hl : l.length ≤ 140737488355328) (k : RO h l e z) :
    Tri Try.prog 21 #[.agg #[(h).a, (h).b, (h).y, (h).d], str l] w S fun u A => ∃ a b y : Value, u = .tuple #[.agg #[a, b, y], i64 e] ∧ A = [.own 3 1 (a) (z.1).length ((z.1).map i64), .own 3 1 (b) (z.2.1).length ((z.2.1).map i64), .own 3 1 (y) (z.2.2).length ((z.2.2).map i64)] := by
  rcases k with ⟨hg, rfl, rfl⟩ | ⟨hg, rfl, rfl⟩
  · refine tri_turn (rrorders_spec h l true w S hS hh hl ⟨fun _ => hg, fun _ => rfl⟩) ?_
    intro v A hR
    exact ⟨A, hR, fun w hs => hs⟩
  · refine tri_turn (rrorders_spec h l false w S hS hh hl ⟨fun h => (by cases h), fun h => absurd h hg⟩) ?_
    intro v A hR
    obtain ⟨rfl, rfl⟩ := (show v = .tuple #[.agg #[.slice none 0 0, .slice none 0 0, .slice none 0 0], i64 3] ∧ A = [] from hR)
    exact ⟨_, ⟨_, _, _, rfl, rfl⟩, fun w hs => hs.ownNil.ownNil.ownNil⟩
end Go.Proofs.Ytdnpofigagdabaa
