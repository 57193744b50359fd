/- The law of the desk's steps: what is done was prepared. -/
import Derived.Test.YtehgfhjocfaciaaDeskH
namespace Go.Proofs.Ytehgfhjocfaciaa
open Go.RowKit Go.BK

structure Come where
  now : Int
  e : Cmd
instance : Inhabited Come := ⟨⟨0, ⟨0, 0, 0, 0⟩⟩⟩
def comeC (c : Come) : List Value := [i64 c.now, i64 c.e.k, i64 c.e.s, i64 c.e.n, i64 c.e.v]
def comeV (c : Come) : Value := .agg #[i64 c.now, i64 c.e.k, i64 c.e.s, i64 c.e.n, i64 c.e.v]
/-- What the table of preparations knows. -/
structure StepI (ds : List Ses) (m : List (Int × Value)) : Prop where
  fit : fits ds = true
  dist : mdist m
  val : ∀ k v, mget k m = some v → ∃ p, v = comeV p
  prep : ∀ s : Nat, s < 4 → (ds.getD s default).k ≠ 0 → ∃ p : Come, mget (s : Int) m = some (comeV p) ∧ p.e.v = (ds.getD s default).k ∧ p.e.n = (ds.getD s default).n ∧ (ds.getD s default).u = p.now + 16
theorem fits_len {ds : List Ses} (h : fits ds = true) : ds.length = 4 := by
  unfold fits at h; rw [Bool.and_eq_true] at h; exact of_decide_eq_true h.2
theorem fits_at {ds : List Ses} (h : fits ds = true) {i : Nat} (hi : i < 4) : 0 ≤ (ds.getD i default).l ∧ (ds.getD i default).l ≤ 3 := by
  have hl := fits_len h
  unfold fits at h; rw [Bool.and_eq_true] at h
  have := List.all_eq_true.1 h.1 (ds.getD i default) (by rw [List.getD_eq_getElem?_getD, List.getElem?_eq_getElem (by omega), Option.getD_some]; exact List.getElem_mem _)
  exact btw_t.1 this
theorem fits_set {ds : List Ses} (h : fits ds = true) {i : Nat} {s : Ses} (hs : 0 ≤ s.l ∧ s.l ≤ 3) : fits (ds.set i s) = true := by
  have hl := fits_len h
  unfold fits at h ⊢
  rw [Bool.and_eq_true] at h ⊢
  rw [List.length_set]
  refine ⟨?_, h.2⟩
  rw [List.all_eq_true] at h ⊢
  intro x hx
  rcases List.mem_or_eq_of_mem_set hx with hx | rfl
  · exact h.1 x hx
  · exact btw_t.2 hs
theorem at_set {ds : List Ses} {i j : Nat} {s : Ses} (h : j ≠ i) : (ds.set i s).getD j default = ds.getD j default := by
  rw [List.getD_eq_getElem?_getD, List.getElem?_set_ne (by omega), ← List.getD_eq_getElem?_getD]
theorem StepI.none {ds : List Ses} {m : List (Int × Value)} (h : StepI ds m) {s : Int} (hs : 0 ≤ s ∧ s ≤ 3) {l : Int} (hl : 0 ≤ l ∧ l ≤ 3) : StepI (ds.set s.toNat ⟨l, 0, 0, 0⟩) (mdel s m) where
  fit := fits_set h.fit hl
  dist := mdist_del s m h.dist
  val := fun k v hk => by
    rw [mget_del s k m h.dist] at hk
    by_cases e : k = s
    · rw [if_pos e] at hk; exact absurd hk (by simp)
    · rw [if_neg e] at hk; exact h.val k v hk
  prep := fun j hj hk => by
    by_cases e : j = s.toNat
    · subst e
      rw [getD_set_same (by rw [fits_len h.fit]; omega)] at hk
      exact absurd rfl hk
    · rw [at_set e] at hk ⊢
      obtain ⟨p, h1, h2⟩ := h.prep j hj hk
      exact ⟨p, by rw [mget_del s j m h.dist, if_neg (by omega)]; exact h1, h2⟩
theorem StepI.put {ds : List Ses} {m : List (Int × Value)} (h : StepI ds m) {x : Come} (hs : 0 ≤ x.e.s ∧ x.e.s ≤ 3) {l : Int} (hl : 0 ≤ l ∧ l ≤ 3) : StepI (ds.set x.e.s.toNat ⟨l, x.e.v, x.e.n, x.now + 16⟩) (mput x.e.s (comeV x) m) where
  fit := fits_set h.fit hl
  dist := mdist_put _ _ m h.dist
  val := fun k v hk => by
    rw [mget_put] at hk
    by_cases e : k = x.e.s
    · rw [if_pos e, Option.some.injEq] at hk; exact ⟨x, hk.symm⟩
    · rw [if_neg e] at hk; exact h.val k v hk
  prep := fun j hj hk => by
    by_cases e : j = x.e.s.toNat
    · subst e
      rw [getD_set_same (by rw [fits_len h.fit]; omega)]
      exact ⟨x, by rw [mget_put, if_pos (by omega)], rfl, rfl, rfl⟩
    · rw [at_set e] at hk ⊢
      obtain ⟨p, h1, h2⟩ := h.prep j hj hk
      exact ⟨p, by rw [mget_put, if_neg (by omega)]; exact h1, h2⟩
theorem crit_need {k : Int} (h : crit k = true) : needL k = 3 ∧ k ≠ 1 ∧ k ≠ 2 ∧ k ≠ 9 ∧ k ≠ 10 ∧ k ≠ 0 := by
  unfold crit at h
  simp only [Bool.or_eq_true, decide_eq_true_eq] at h
  rcases h with rfl | rfl | rfl <;> decide
theorem hand_cases {ds : List Ses} {now : Int} {e : Cmd} (h : (hand ds now e).2.2 = 0) :
    ((0 ≤ now ∧ now ≤ 4294967295) ∧ (0 ≤ e.s ∧ e.s ≤ 3)) ∧
    ((e.k = 1 ∧ (0 ≤ e.v ∧ e.v ≤ 3) ∧ hand ds now e = (ds.set e.s.toNat ⟨e.v, 0, 0, 0⟩, false, 0)) ∨
    (e.k = 2 ∧ hand ds now e = (ds.set e.s.toNat ⟨0, 0, 0, 0⟩, false, 0)) ∨
    (e.k = 9 ∧ hand ds now e = (ds.set e.s.toNat ⟨(ds.getD e.s.toNat default).l, e.v, e.n, now + 16⟩, false, 0)) ∨
    (crit e.k = true ∧ 3 ≤ (ds.getD e.s.toNat default).l ∧ (ds.getD e.s.toNat default).k = e.k ∧ (ds.getD e.s.toNat default).n = e.n ∧ now ≤ (ds.getD e.s.toNat default).u ∧ hand ds now e = (ds.set e.s.toNat ⟨(ds.getD e.s.toNat default).l, 0, 0, 0⟩, true, 0)) ∨
    (e.k ≠ 1 ∧ e.k ≠ 2 ∧ e.k ≠ 9 ∧ crit e.k = false ∧ 1 ≤ (ds.getD e.s.toNat default).l ∧ (e.k ≠ 10 → 2 ≤ (ds.getD e.s.toNat default).l) ∧ hand ds now e = (ds, true, 0))) := by
  unfold hand at h
  by_cases h1 : fits ds = false
  · rw [if_pos h1] at h; exact absurd h (by simp)
  rw [if_neg h1] at h
  by_cases h2 : btw now 0 4294967295 = false
  · rw [if_pos h2] at h; exact absurd h (by simp)
  rw [if_neg h2] at h
  by_cases h3 : btw e.k 1 11 = false
  · rw [if_pos h3] at h; exact absurd h (by simp)
  rw [if_neg h3] at h
  by_cases h4 : btw e.s 0 3 = false
  · rw [if_pos h4] at h; exact absurd h (by simp)
  rw [if_neg h4] at h
  have h1' : fits ds = true := by simpa using h1
  have h2' : btw now 0 4294967295 = true := by simpa using h2
  have h3' : btw e.k 1 11 = true := by simpa using h3
  have h4' : btw e.s 0 3 = true := by simpa using h4
  have hs := btw_t.1 h4'
  have hi : e.s.toNat < 4 := by omega
  have hlv := fits_at h1' hi
  refine ⟨⟨btw_t.1 h2', hs⟩, ?_⟩
  rw [hand_ok h1' h2' h3' h4']
  dsimp only at h
  revert h
  have hset : ds.set e.s.toNat (ds.getD e.s.toNat default) = ds := set_getD_same (by rw [fits_len h1']; exact hi)
  generalize ds.getD e.s.toNat default = s at hlv hset
  unfold hand1
  by_cases k1 : e.k = 1
  · rw [if_pos k1]; unfold logS
    by_cases k : btw e.v 1 3 = true ∧ e.n = 1111 * e.v
    · rw [if_pos k]; intro _
      have := btw_t.1 k.1
      exact .inl ⟨k1, by omega, rfl⟩
    · rw [if_neg k]; intro h; exact absurd h (by simp)
  rw [if_neg k1]
  by_cases k2 : s.l = 0
  · rw [if_pos k2]; intro h; exact absurd h (by simp)
  rw [if_neg k2]
  by_cases k3 : e.k = 2
  · rw [if_pos k3]; intro _; exact .inr (.inl ⟨k3, rfl⟩)
  rw [if_neg k3]
  by_cases k4 : s.l < needL e.k
  · rw [if_pos k4]; intro h; exact absurd h (by simp)
  rw [if_neg k4]
  by_cases k5 : e.k = 9
  · rw [if_pos k5]; unfold prepS
    by_cases k : crit e.v = true
    · rw [if_pos k]; intro _; exact .inr (.inr (.inl ⟨k5, rfl⟩))
    · rw [if_neg k]; intro h; exact absurd h (by simp)
  rw [if_neg k5]
  by_cases k6 : crit e.k = true
  · rw [if_pos k6]; unfold takeS
    by_cases k : s.k = e.k ∧ s.n = e.n ∧ now ≤ s.u
    · rw [if_pos k]; intro _
      have := (crit_need k6).1
      exact .inr (.inr (.inr (.inl ⟨k6, by omega, k.1, k.2.1, k.2.2, rfl⟩)))
    · rw [if_neg k]; intro h; exact absurd h (by simp)
  · rw [if_neg k6]; intro _
    refine .inr (.inr (.inr (.inr ⟨k1, k3, k5, by simpa using k6, by omega, fun k10 => ?_, by rw [hset]⟩)))
    unfold needL at k4
    rw [if_neg k10] at k4
    by_cases k : e.k = 9 ∨ e.k = 6 ∨ e.k = 7 ∨ e.k = 8
    · rw [if_pos k] at k4; omega
    · rw [if_neg k] at k4; omega
end Go.Proofs.Ytehgfhjocfaciaa
