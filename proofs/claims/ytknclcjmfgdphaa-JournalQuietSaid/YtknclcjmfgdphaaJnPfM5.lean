/- Own lemmas: the texts JnQ, JnR, JnS, JnT, JnU, JnV, JnW, LibAE, JnX, JnY, JoA, JoB, JoC, JoD, JoE. -/
import Derived.Test.YtknclcjmfgdphaaJnPfM4
namespace Go.Proofs.Ytknclcjmfgdphaa
open Go.RowKit Go.BK
theorem getD_set {α : Type} {xs : List α} {i j : Nat} {a d : α} : (xs.set i a).getD j d = if i = j ∧ j < xs.length then a else xs.getD j d := by
  by_cases h : i = j
  · subst h
    by_cases hl : i < xs.length
    · rw [if_pos ⟨rfl, hl⟩, List.getD_eq_getElem?_getD, List.getElem?_set_self hl]; rfl
    · rw [if_neg (fun k => hl k.2), List.getD_eq_getElem?_getD, List.getD_eq_getElem?_getD, List.set_eq_of_length_le (by omega)]
  · rw [if_neg (fun k => h k.1), List.getD_eq_getElem?_getD, List.getElem?_set_ne h, ← List.getD_eq_getElem?_getD]
theorem bad_ok {m : Mem} {p pos : Int} {t : List UInt8} (h1 : m.place p pos = 0) (h2 : (t.length : Int) ≤ 4096 - pos) (h3 : ((m.page p).take (pos + t.length).toNat).drop pos.toNat = bareB t.length) : m.bad p pos t = 0 := by
  unfold Mem.bad; rw [if_neg (fun k => k h1), if_neg (by omega), if_neg (fun k => k h3)]
theorem act_wf {m : Mem} {K : Nat} (h : m.wf K) (ct : Option Int) : (m.act ct).wf (K + 1) := ⟨by have := h.ar0; show 0 ≤ m.ar + 1; omega, by have := h.ar1; show m.ar + 1 ≤ ((K + 1 : Nat) : Int); omega, by have := h.ac0; show 0 ≤ m.ac + 1; omega, by have := h.ac1; show m.ac + 1 ≤ ((K + 1 : Nat) : Int); omega, h.pl, h.wl, h.p, fun i hi => ⟨(h.w i hi).1, by have := (h.w i hi).2; show m.worn.getD i 0 ≤ _; omega⟩⟩
theorem burn_wf {m : Mem} {K : Nat} {p pos : Int} {t : List UInt8} {ct : Option Int} (h : m.wf K) (hb : m.bad p pos t = 0) : ((m.burnt p pos t (m7cutF ct t.length).1).act ct).wf (K + 1) := by
  obtain ⟨h1, h2, _⟩ := bad_zero hb
  obtain ⟨_, hp, hpos⟩ := place_zero h1
  obtain ⟨hp1, hp2⟩ := h.page hp.1 hp.2
  have hn := cutF_bd ct t.length (by omega)
  refine act_wf (m := m.burnt p pos t (m7cutF ct t.length).1) ⟨h.ar0, h.ar1, h.ac0, h.ac1, by show (m.pages.set _ _).length = 24; rw [List.length_set]; exact h.pl, h.wl, fun i hi => ?_, h.w⟩ ct
  show ((m.pages.set _ _).getD i []).length = 4096
  rw [getD_set]
  split
  · rw [List.length_append, List.length_append, List.length_take, List.length_take, List.length_drop]; omega
  · exact h.p i hi
theorem erase_wf {m : Mem} {K : Nat} {p : Int} {ct : Option Int} (h : m.wf K) (hp : 0 ≤ p ∧ p < 24) : ((m.erased p (m7cutF ct 4096).1).act ct).wf (K + 1) := by
  obtain ⟨hp1, hp2⟩ := h.page hp.1 hp.2
  have hn := cutF_bd ct 4096 (by decide)
  have hw := h.w p.toNat (by omega)
  have hh : (m.erased p (m7cutF ct 4096).1).wf (K + 1) := ⟨h.ar0, by have := h.ar1; show m.ar ≤ _; omega, h.ac0, by have := h.ac1; show m.ac ≤ _; omega, by show (m.pages.set _ _).length = 24; rw [List.length_set]; exact h.pl, by show (m.worn.set _ _).length = 24; rw [List.length_set]; exact h.wl, fun i hi => by
      show ((m.pages.set _ _).getD i []).length = 4096
      rw [getD_set]
      split
      · rw [List.length_append, bareB_length, List.length_drop]; omega
      · exact h.p i hi, fun i hi => by
      show 0 ≤ (m.worn.set _ _).getD i 0 ∧ (m.worn.set _ _).getD i 0 ≤ _
      rw [getD_set]
      split
      · omega
      · have := h.w i hi; omega⟩
  exact ⟨by have := h.ar0; show 0 ≤ m.ar + 1; omega, by have := h.ar1; show m.ar + 1 ≤ _; omega, by have := h.ac0; show 0 ≤ m.ac + 1; omega, by have := h.ac1; show m.ac + 1 ≤ _; omega, hh.pl, hh.wl, hh.p, hh.w⟩
/-- Cuts are numbers. -/
def CutM (mp : List (Int × Value)) : Prop := ∀ e ∈ mp, ∃ q, e.2 = i64 q
theorem mget_mem {a : Int} {v : Value} : ∀ {m : List (Int × Value)}, mget a m = some v → ∃ e ∈ m, e.2 = v
  | p :: m, h => by
    unfold mget at h
    by_cases c : a = p.1
    · rw [if_pos c] at h; exact ⟨p, by simp, by simpa using h⟩
    · rw [if_neg c] at h
      obtain ⟨e, h1, h2⟩ := mget_mem h
      exact ⟨e, List.mem_cons_of_mem _ h1, h2⟩
theorem mem_mdel {a : Int} : ∀ {m : List (Int × Value)} {e : Int × Value}, e ∈ mdel a m → e ∈ m
  | p :: m, e, h => by
    unfold mdel at h
    by_cases c : a = p.1
    · rw [if_pos c] at h; exact List.mem_cons_of_mem _ h
    · rw [if_neg c] at h
      rcases List.mem_cons.1 h with rfl | h
      · simp
      · exact List.mem_cons_of_mem _ (mem_mdel h)
theorem mem_mput {a : Int} {v : Value} : ∀ {m : List (Int × Value)} {e : Int × Value}, e ∈ mput a v m → e ∈ m ∨ e = (a, v)
  | [], e, h => .inr (by simpa [mput] using h)
  | p :: m, e, h => by
    unfold mput at h
    by_cases c : a = p.1
    · rw [if_pos c] at h
      rcases List.mem_cons.1 h with rfl | h
      · exact .inr rfl
      · exact .inl (List.mem_cons_of_mem _ h)
    · rw [if_neg c] at h
      rcases List.mem_cons.1 h with rfl | h
      · exact .inl (by simp)
      · exact (mem_mput h).imp (List.mem_cons_of_mem _) id
theorem CutM.del {mp : List (Int × Value)} (h : CutM mp) (a : Int) : CutM (mdel a mp) := fun e he => h e (mem_mdel he)
theorem CutM.put {mp : List (Int × Value)} (h : CutM mp) (a q : Int) : CutM (mput a (i64 q) mp) := fun e he => (mem_mput he).elim (h e) fun e1 => by rw [e1]; exact ⟨q, rfl⟩
theorem CutM.nil : CutM [] := fun e he => by cases he
theorem CutM.arm (cs : List Cut) : CutM (armM cs) := by
  have key : ∀ (cs : List Cut) (m : List (Int × Value)), CutM m → CutM (cs.foldl armStep m) := by
    intro cs
    induction cs with
    | nil => intro m h; exact h
    | cons c cs ih =>
      intro m h
      rw [List.foldl_cons]
      refine ih _ ?_
      unfold armStep
      split
      · split
        · exact h.put _ _
        · exact h
      · exact h.put _ _
  exact key cs [] CutM.nil
theorem CutM.cut {mp : List (Int × Value)} (h : CutM mp) (a : Int) : ∃ ct : Option Int, mget a mp = ct.map i64 ∧ (mp = [] → ct = none) := by
  cases hg : mget a mp with
  | none => exact ⟨none, rfl, fun _ => rfl⟩
  | some v =>
    obtain ⟨e, he, hv⟩ := mget_mem hg
    obtain ⟨q, hq⟩ := h e he
    refine ⟨some q, by rw [← hv, hq]; rfl, fun h0 => ?_⟩
    rw [h0] at hg; cases hg
theorem pg_set (m : Mem) (x : Txt) {p : Nat} (hp : p < m.pages.length) (q : Nat) : (m.pages.set p x).getD q [] = updP (pgM m) p x q := by
  rw [getD_set]
  unfold updP pgM
  by_cases h : q = p
  · rw [if_pos h, if_pos ⟨h.symm, by omega⟩]
  · rw [if_neg h, if_neg (fun k => h k.1.symm)]
theorem pg_burnt (m : Mem) {p : Nat} (hp : p < m.pages.length) (pos n : Int) (t : Txt) (ct : Option Int) : pgM ((m.burnt p pos t n).act ct) = updP (pgM m) p ((pgM m p).take pos.toNat ++ t.take n.toNat ++ (pgM m p).drop (pos + n).toNat) := funext fun q => pg_set m _ hp q
theorem pg_erased (m : Mem) {p : Nat} (hp : p < m.pages.length) (n : Int) (ct : Option Int) : pgM ((m.erased p n).act ct) = updP (pgM m) p (bareB n.toNat ++ (pgM m p).drop n.toNat) := funext fun q => pg_set m _ hp q
theorem dw_nil {α : Type} (q : α → Bool) : ∀ (l : List α), l.dropWhile q = [] → ∀ x ∈ l, q x = true
  | a :: l, h, x, hx => by
    rw [List.dropWhile_cons] at h
    by_cases c : q a = true
    · rw [if_pos c] at h
      rcases List.mem_cons.1 hx with rfl | hx
      · exact c
      · exact dw_nil q l h x hx
    · rw [if_neg c] at h; cases h
theorem bareL_zero {P : Txt} (h : bareL P = 0) : P = bareB P.length := by
  unfold bareL at h
  have h1 := List.length_eq_zero_iff.1 h
  have h2 : ∀ x ∈ P, x = 255 := fun x hx => by
    have := dw_nil _ _ h1 x (List.mem_reverse.2 hx)
    simpa using this
  exact List.eq_replicate_iff.2 ⟨rfl, h2⟩
theorem bare_read (n : Nat) : readF (bareB n) 0 = none := readF_bare [] n
theorem updP_self (pg : Nat → Txt) (p : Nat) (x : Txt) (h : pg p = x) : updP pg p x = pg := funext fun q => by
  unfold updP
  by_cases e : q = p
  · rw [if_pos e, e, h]
  · rw [if_neg e]
theorem place_free {m : Mem} (ho : m.off = false) {p : Nat} (hp : p < 24) {a : Int} (h0 : 0 ≤ a) (h1 : a ≤ 4096) : m.place (p : Int) a = 0 := by
  unfold Mem.place; rw [if_neg (by rw [ho]; decide), if_neg (by omega)]
theorem page_pg (m : Mem) (p : Nat) : m.page (p : Int) = pgM m p := rfl
/-- An erasing: the page is taken out, or is as it was. -/
theorem erase_out {m : Mem} {K : Nat} {all : List Rec} {L : List Lf} {p : Nat} (hm : m.wf K) (hI : MInv (pgM m) all L) (hp : p < 24) (hf : Free L p) (ct : Option Int) :
    (ct = none ∧ (m7cutF ct 4096).2 = 0 ∧ MInv (pgM ((m.erased p (m7cutF ct 4096).1).act ct)) all (without L p) ∧ pgM ((m.erased p (m7cutF ct 4096).1).act ct) p = bareB 4096) ∨
    (ct ≠ none ∧ (m7cutF ct 4096).2 = 14 ∧ ∃ L', MInv (pgM ((m.erased p (m7cutF ct 4096).1).act ct)) all L') := by
  have hpl : p < m.pages.length := by rw [hm.pl]; exact hp
  have hlen := hI.len p hp
  rw [pg_erased m hpl]
  cases ct with
  | none =>
    refine .inl ⟨rfl, rfl, ?_, ?_⟩
    · have e : bareB ((4096 : Int)).toNat ++ (pgM m p).drop ((4096 : Int)).toNat = bareB 4096 := by
        rw [List.drop_of_length_le (by rw [hlen]; decide), List.append_nil]; rfl
      show MInv (updP (pgM m) p (bareB ((4096 : Int)).toNat ++ (pgM m p).drop ((4096 : Int)).toNat)) all _
      rw [e]
      exact hI.takeOut hf (bare_read 4096) (bareB_length 4096)
    · show updP (pgM m) p (bareB ((4096 : Int)).toNat ++ (pgM m p).drop ((4096 : Int)).toNat) p = _
      rw [updP_at, List.drop_of_length_le (by rw [hlen]; decide), List.append_nil]; rfl
  | some q =>
    have hb := cutF_bd (some q) 4096 (by decide)
    refine .inr ⟨by simp, rfl, ?_⟩
    generalize (m7cutF (some q) 4096).1 = n at hb
    by_cases h0 : n = 0
    · refine ⟨L, ?_⟩
      rw [h0, updP_self (pgM m) p _ (by show _ = [] ++ (pgM m p).drop 0; rw [List.drop_zero]; rfl)]
      exact hI
    · refine ⟨without L p, hI.takeOut hf (readF_wiped _ _ (by omega) ?_) ?_⟩
      · rw [List.length_append, bareB_length, List.length_drop, hlen]; omega
      · rw [List.length_append, bareB_length, List.length_drop, hlen]; omega
/-- A page's head is burnt. -/
theorem head_out {m : Mem} {K : Nat} {all : List Rec} {L : List Lf} {p : Nat} (hm : m.wf K) (hI : MInv (pgM m) all L) (hp : p < 24) (hn : p ∉ L.map (·.page)) (hb : pgM m p = bareB 4096) (ct : Option Int) :
    (ct = none ∧ (m7cutF ct (headJ (all.length + 1) (safeOf all)).length).2 = 0 ∧ JInv (pgM ((m.burnt p 0 (headJ (all.length + 1) (safeOf all)) (m7cutF ct (headJ (all.length + 1) (safeOf all)).length).1).act ct)) all L ⟨p, all.length + 1, 0⟩ (headJ (all.length + 1) (safeOf all)).length) ∨
    (ct ≠ none ∧ (m7cutF ct (headJ (all.length + 1) (safeOf all)).length).2 = 14 ∧ ∃ L', MInv (pgM ((m.burnt p 0 (headJ (all.length + 1) (safeOf all)) (m7cutF ct (headJ (all.length + 1) (safeOf all)).length).1).act ct)) all L') := by
  have hpl : p < m.pages.length := by rw [hm.pl]; exact hp
  have hs := safeOf_ok hI.ok
  have hl := headJ_len (all.length + 1) (safeOf all)
  have hdrop : ∀ n : Nat, n ≤ 4096 → (bareB 4096).drop n = bareB (4096 - n) := fun n hn => by unfold bareB; exact List.drop_replicate
  rw [pg_burnt m hpl, hb]
  cases ct with
  | none =>
    refine .inl ⟨rfl, rfl, ?_⟩
    have e : (bareB 4096).take (0 : Int).toNat ++ (headJ (all.length + 1) (safeOf all)).take (((headJ (all.length + 1) (safeOf all)).length : Nat) : Int).toNat ++ (bareB 4096).drop ((0 : Int) + (((headJ (all.length + 1) (safeOf all)).length : Nat) : Int)).toNat = headJ (all.length + 1) (safeOf all) ++ bareB (4096 - (headJ (all.length + 1) (safeOf all)).length) := by
      rw [show ((0 : Int) + (((headJ (all.length + 1) (safeOf all)).length : Nat) : Int)).toNat = (headJ (all.length + 1) (safeOf all)).length by omega, hdrop _ (by omega), show (((headJ (all.length + 1) (safeOf all)).length : Nat) : Int).toNat = (headJ (all.length + 1) (safeOf all)).length by omega, List.take_length]
      rfl
    show JInv (updP (pgM m) p ((bareB 4096).take (0 : Int).toNat ++ (headJ (all.length + 1) (safeOf all)).take (((headJ (all.length + 1) (safeOf all)).length : Nat) : Int).toNat ++ (bareB 4096).drop ((0 : Int) + (((headJ (all.length + 1) (safeOf all)).length : Nat) : Int)).toNat)) all L _ _
    rw [e]
    exact JInv.begin hI hn hp
  | some q =>
    have hbd := cutF_bd (some q) ((headJ (all.length + 1) (safeOf all)).length : Int) (by omega)
    refine .inr ⟨by simp, rfl, ?_⟩
    generalize (m7cutF (some q) ((headJ (all.length + 1) (safeOf all)).length : Int)).1 = n at hbd
    have e : (bareB 4096).take (0 : Int).toNat ++ (headJ (all.length + 1) (safeOf all)).take n.toNat ++ (bareB 4096).drop ((0 : Int) + n).toNat = (headJ (all.length + 1) (safeOf all)).take n.toNat ++ bareB (4096 - n.toNat) := by
      rw [show ((0 : Int) + n).toNat = n.toNat by omega, hdrop _ (by omega)]; rfl
    rw [e]
    by_cases hfull : n.toNat = (headJ (all.length + 1) (safeOf all)).length
    · refine ⟨L ++ [⟨p, all.length + 1, 0⟩], ?_⟩
      rw [hfull, List.take_length]
      exact hI.begin hn hp
    · refine ⟨L, hI.beside hn ?_ ?_⟩
      · have := readF_part [] (if (safeOf all).2 = true then 0 else 3) ((all.length + 1 : Nat) : Int) (safeOf all).1 n.toNat (4096 - n.toNat) (by omega) hs
        exact this
      · rw [List.length_append, List.length_take, bareB_length]; omega
/-- A record is burnt. -/
theorem rec_out {m : Mem} {K : Nat} {all : List Rec} {L0 : List Lf} {l : Lf} {at' : Nat} (hm : m.wf K) (h : JInv (pgM m) all L0 l at') (r : Rec) (hr : RecOk r) (hfit : at' + (r.text.length + 12) ≤ 4096) (hfew : all.length + 2 < 4294967296) (ct : Option Int) :
    (ct = none ∧ (m7cutF ct (jf r.kind ((all.length + 1 : Nat) : Int) r.text).length).2 = 0 ∧ JInv (pgM ((m.burnt l.page at' (jf r.kind ((all.length + 1 : Nat) : Int) r.text) (m7cutF ct (jf r.kind ((all.length + 1 : Nat) : Int) r.text).length).1).act ct)) (all ++ [r]) L0 ⟨l.page, l.first, l.n + 1⟩ (at' + (r.text.length + 12))) ∨
    (ct ≠ none ∧ (m7cutF ct (jf r.kind ((all.length + 1 : Nat) : Int) r.text).length).2 = 14 ∧ ((∃ L', MInv (pgM ((m.burnt l.page at' (jf r.kind ((all.length + 1 : Nat) : Int) r.text) (m7cutF ct (jf r.kind ((all.length + 1 : Nat) : Int) r.text).length).1).act ct)) all L') ∨ (∃ L', MInv (pgM ((m.burnt l.page at' (jf r.kind ((all.length + 1 : Nat) : Int) r.text) (m7cutF ct (jf r.kind ((all.length + 1 : Nat) : Int) r.text).length).1).act ct)) (all ++ [r]) L'))) := by
  have hlp := h.mem.lt l (by simp)
  have hpl : l.page < m.pages.length := by rw [hm.pl]; exact hlp
  have hj := jf_len r.kind ((all.length + 1 : Nat) : Int) r.text
  have hpg := h.page
  have hat := h.place
  have htake : (pgM m l.page).take at' = cont l.first (safeOf (all.take (l.first - 1))) (seg all l.first l.n) := by rw [hpg, hat, List.take_left' rfl]
  have hdrop : ∀ n : Nat, at' + n ≤ 4096 → (pgM m l.page).drop (at' + n) = bareB (4096 - (at' + n)) := fun n hn => by
    rw [hpg, ← List.drop_drop, List.drop_left' hat.symm]
    unfold bareB
    rw [List.drop_replicate]
    congr 1; omega
  have hform : ∀ n : Int, 0 ≤ n → n ≤ r.text.length + 12 → (pgM m l.page).take ((at' : Nat) : Int).toNat ++ (jf r.kind ((all.length + 1 : Nat) : Int) r.text).take n.toNat ++ (pgM m l.page).drop (((at' : Nat) : Int) + n).toNat = cont l.first (safeOf (all.take (l.first - 1))) (seg all l.first l.n) ++ ((jf r.kind ((all.length + 1 : Nat) : Int) r.text).take n.toNat ++ bareB (4096 - (at' + n.toNat))) := fun n h0 h1 => by
    rw [show ((at' : Nat) : Int).toNat = at' from rfl, htake, show (((at' : Nat) : Int) + n).toNat = at' + n.toNat by omega, hdrop _ (by omega), List.append_assoc]
  rw [pg_burnt m hpl]
  cases ct with
  | none =>
    refine .inl ⟨rfl, rfl, ?_⟩
    have e := hform (((jf r.kind ((all.length + 1 : Nat) : Int) r.text).length : Nat) : Int) (by omega) (by omega)
    rw [show (m7cutF none (((jf r.kind ((all.length + 1 : Nat) : Int) r.text).length : Nat) : Int)).1 = (((jf r.kind ((all.length + 1 : Nat) : Int) r.text).length : Nat) : Int) from rfl, e, show (((jf r.kind ((all.length + 1 : Nat) : Int) r.text).length : Nat) : Int).toNat = (jf r.kind ((all.length + 1 : Nat) : Int) r.text).length by omega, List.take_length, hj]
    exact h.add r hr hfit hfew
  | some q =>
    have hbd := cutF_bd (some q) ((jf r.kind ((all.length + 1 : Nat) : Int) r.text).length : Int) (by omega)
    refine .inr ⟨by simp, rfl, ?_⟩
    generalize (m7cutF (some q) ((jf r.kind ((all.length + 1 : Nat) : Int) r.text).length : Int)).1 = n at hbd
    rw [hform n hbd.1 (by omega)]
    by_cases hfull : n.toNat = (jf r.kind ((all.length + 1 : Nat) : Int) r.text).length
    · refine .inr ⟨L0 ++ [⟨l.page, l.first, l.n + 1⟩], ?_⟩
      rw [hfull, List.take_length, hj]
      exact (h.add r hr hfit hfew).mem
    · exact .inl ⟨L0 ++ [l], h.part r hr n.toNat (by omega) hfit⟩
end Go.Proofs.Ytknclcjmfgdphaa
namespace Go.Proofs.Ytknclcjmfgdphaa
open Go.RowKit Go.BK
/-- What a turning comes to. -/
def TurnR (mp : List (Int × Value)) (K : Nat) (all : List Rec) (e : Int) (m' : Mem) (mp' : List (Int × Value)) (L' : List Lf) (a' : Int) : Prop :=
  m'.wf K ∧ CutM mp' ∧ (mp = [] → mp' = []) ∧
  ((e = 0 ∧ m'.off = false ∧ ∃ (L0 : List Lf) (l : Lf) (at' : Nat), L' = L0 ++ [l] ∧ a' = (at' : Int) ∧ JInv (pgM m') all L0 l at' ∧ at' ≤ 1012 ∧ l.first = all.length + 1 ∧ l.n = 0) ∨ (e = 14 ∧ m'.off = true ∧ mp ≠ [] ∧ ∃ L'', MInv (pgM m') all L''))
theorem wf_up {m : Mem} {K K' : Nat} (h : m.wf K) (hk : K ≤ K') : m.wf K' := ⟨h.ar0, by have := h.ar1; omega, h.ac0, by have := h.ac1; omega, h.pl, h.wl, h.p, fun i hi => ⟨(h.w i hi).1, by have := (h.w i hi).2; omega⟩⟩
theorem off_act (m : Mem) (ct : Option Int) (h : m.off = false) : (m.act ct).off = ct.isSome := by
  show (m.off || ct.isSome) = _
  rw [h]; rfl
theorem del_nil {a : Int} {mp : List (Int × Value)} (h : mp = []) : mdel a mp = [] := by rw [h]; rfl
theorem bare_nat {m : Mem} {K : Nat} (hm : m.wf K) {p : Nat} (hp : p < 24) : m.bare (p : Int) = bareL (pgM m p) := by
  unfold Mem.bare; rw [if_neg (by omega)]; rfl
set_option maxHeartbeats 4000000 in
set_option maxRecDepth 4000 in
theorem turn_spec (jb mb : Nat) (o : Option Nat) (m : Mem) (K : Nat) (mp : List (Int × Value)) (st : St8) (lv : Value) (L : List Lf) (a nx : Int) (d : Bool) (all : List Rec) (w : World) (S : BSet) (hS : (sepL [.blk jb #[str (st).1, .bool (st).2, ptr mb 0, lv, i64 a, i64 nx, .bool d] 41, .own 68 3 (lv) (L).length ((L).flatMap lfC), .blk mb (Value.map (o) :: i64 (m).ar :: i64 (m).ac :: Value.bool (m).off :: ((m).pages.map str ++ (m).worn.map i64)).toArray 61, .omap o mp]).sat S w) (hm : m.wf K) (hK : K ≤ 1099511627774) (hoff : m.off = false) (ho : o = none → mp = []) (hC : CutM mp) (hI : MInv (pgM m) all L) (hst : st = safeOf all) (hnx : nx = ((all.length + 1 : Nat) : Int)) :
    Tri Try.prog 22 #[ptr jb 0] w S fun u A => ∃ (e : Int) (m' : Mem) (mp' : List (Int × Value)) (lv' : Value) (L' : List Lf) (a' : Int), u = i64 e ∧ A = [.blk jb #[str (st).1, .bool (st).2, ptr mb 0, lv', i64 a', i64 nx, .bool d] 41, .own 68 3 (lv') (L').length ((L').flatMap lfC), .blk mb (Value.map (o) :: i64 (m').ar :: i64 (m').ac :: Value.bool (m').off :: ((m').pages.map str ++ (m').worn.map i64)).toArray 61, .omap o mp'] ∧ TurnR mp (K + 2) all e m' mp' L' a' := by
  refine Tri.enter (l := [ptr jb 0]) Try.func22 rfl Try.ntmps22 rfl [(0, ptr jb 0)] (subA rfl) hS ?_
  have hfew := few_pages hI.nodup hI.lt
  repeat first
    | (apply WL.q; exact rfl; exact rfl; exact rfl; (first | (apply EvW.move; exact rfl) | (apply EvW.assign; exact rfl)))
    | refine WC.seq ?_ | refine WC.region ?_ | refine WL.nil ?_ | refine WE.next ?_
  try refine WL.wanted rfl rfl rfl ?_
  apply WL.callA ([.blk jb #[str (st).1, .bool (st).2, ptr mb 0, lv, i64 a, i64 nx, .bool d] 41, .own 68 3 (lv) (L).length ((L).flatMap lfC), .blk mb (Value.map (o) :: i64 (m).ar :: i64 (m).ac :: Value.bool (m).off :: ((m).pages.map str ++ (m).worn.map i64)).toArray 61])
  · exact rfl
  · exact rfl
  · exact fun w => Try.call37 _ w
  · (focus ((repeat constructor); done))
  · exact fun w1 S1 hS1 hs1 ho1 => victim_spec jb mb o m K st lv L a nx d w1 S1 hS1 hm hfew hI.lt
  rintro _ _ ⟨p, rfl, rfl, hp, hv⟩
  first | refine WL.app4 ?_ | refine WL.app3 ?_ | refine WL.app2 ?_ | refine WL.app1 ?_ | refine WL.app0 ?_ | skip
  have hfree := victim_free hI.nodup hI.lt hv
  skip
  try refine WL.wanted rfl rfl rfl ?_
  (apply WL.alloc; exact rfl; exact ZvC.eq; exact rfl; intro pb)
  repeat first
    | (apply WL.q; exact rfl; exact rfl; exact rfl; (first | (apply EvW.move; exact rfl) | (apply EvW.nilPtr; exact rfl) | (apply EvW.fieldAddr0; exact rfl; exact FldC.eq) | (apply EvW.load; exact rfl; exact ScalC.eq; (focus ((repeat constructor); done)); exact rfl) | (apply EvW.makeFunc; exact rfl)))
    | refine WC.seq ?_ | refine WC.region ?_ | refine WL.nil ?_ | refine WE.next ?_ | (apply WL.store; exact rfl; exact rfl; (first | assumption | exact rfl); exact SzC.eq; (first | assumption | exact rfl); (focus ((repeat constructor); done)))
  try refine WL.wanted rfl rfl rfl ?_
  apply WL.callA ([.own 68 3 (lv) (L).length ((L).flatMap lfC), .blk pb #[i64 (p : Int)] 3])
  · exact rfl
  · exact rfl
  · exact fun w => Try.call38 _ w
  · (focus ((repeat constructor); done))
  · exact fun w1 S1 hS1 hs1 ho1 => delete_spec lv L pb p w1 S1 hS1 hfew
  rintro _ _ ⟨_, rfl, rfl⟩
  first | refine WL.app4 ?_ | refine WL.app3 ?_ | refine WL.app2 ?_ | refine WL.app1 ?_ | refine WL.app0 ?_ | skip
  rename_i v'
  (first | refine WL.slOwn (v := v') (by repeat constructor) ?_ | refine WC.slOwn (v := v') (by repeat constructor) ?_)
  intro hc_v' ho_v'
  repeat first
    | (apply WL.q; exact rfl; exact rfl; exact rfl; (first | (apply EvW.nilPtr; exact rfl) | (apply EvW.fieldAddr0; exact rfl; exact FldC.eq)))
    | refine WC.seq ?_ | refine WL.nil ?_ | refine WE.next ?_ | (apply WL.store; exact rfl; exact rfl; (first | assumption | exact rfl); exact SzC.eq; (first | assumption | exact rfl); (focus ((repeat constructor); done)))
  repeat refine WC.seq ?_
  refine WC.keep (xs := [.blk jb #[str (st).1, .bool (st).2, ptr mb 0, v', i64 a, i64 nx, .bool d] 41, .own 68 3 (v') (without L p).length ((without L p).flatMap lfC), .blk pb #[i64 (p : Int)] 3, .blk mb (Value.map (o) :: i64 (m).ar :: i64 (m).ac :: Value.bool (m).off :: ((m).pages.map str ++ (m).worn.map i64)).toArray 61, .omap o mp]) (by repeat constructor) ?_
  apply WC.par _ (fun c : Ch => [.blk jb #[str (st).1, .bool (st).2, ptr mb 0, v', i64 a, i64 nx, .bool d] 41, .own 68 3 (v') (without L p).length ((without L p).flatMap lfC), .blk pb #[i64 (p : Int)] 3, .blk mb (Value.map (o) :: i64 (m).ar :: i64 (m).ac :: Value.bool (m).off :: ((m).pages.map str ++ (m).worn.map i64)).toArray 61, .omap o mp]) [none, none, none, none, none] [none, none, none, none, none] [] Try.mixed
  · (focus ((repeat (first | exact Restr.nil | (apply Restr.keep; exact rfl; exact rfl) | (apply Restr.drop; exact rfl))); done))
  · intro c; exact (by repeat constructor)
  · exact rfl
  · decide +kernel
  · decide +kernel
  · intro c
    (apply Par.quiet _ [true, true, true, true, true]; exact rfl; decide +kernel; exact rfl; intro R; refine ⟨_, (by repeat constructor), ?_⟩;
         (first | (apply EvW.move; exact rfl)))
    (apply Par.quiet _ [true, true, true, true, true]; exact rfl; decide +kernel; exact rfl; intro R; refine ⟨_, (by repeat constructor), ?_⟩;
         (first | (apply EvW.nilPtr; exact rfl)))
    (apply Par.quiet _ [true, true, true, true, true]; exact rfl; decide +kernel; exact rfl; intro R; refine ⟨_, (by repeat constructor), ?_⟩;
         (first | (apply EvW.fieldAddr0; exact rfl; exact FldC.eq)))
    (apply Par.quiet _ [true, true, true, true, true]; exact rfl; decide +kernel; exact rfl; intro R; refine ⟨_, (by repeat constructor), ?_⟩;
         (first | (apply EvW.load; exact rfl; exact ScalC.eq; (focus ((repeat constructor); done)); exact rfl)))
    (apply Par.quiet _ [true, true, true, true, true]; exact rfl; decide +kernel; exact rfl; intro R; refine ⟨_, (by repeat constructor), ?_⟩;
         (first | (apply EvW.load; exact rfl; exact ScalC.eq; (focus ((repeat constructor); done)); exact rfl)))
    apply Par.quiet _ [true, true, true, true, true]
    · exact rfl
    · decide +kernel
    · exact rfl
    · intro R
      refine ⟨_, (by repeat constructor), ?_⟩
      apply EvW.callK ([.blk mb (Value.map (o) :: i64 (m).ar :: i64 (m).ac :: Value.bool (m).off :: ((m).pages.map str ++ (m).worn.map i64)).toArray 61])
      · exact rfl
      · exact fun w => Try.call40 _ w
      · (focus ((repeat constructor); done))
      · exact fun w1 S1 hS1 hs1 ho1 => bareOf_spec mb o m K p w1 S1 hS1 hm
      · exact fun _ _ h => h
    (apply Par.quiet _ [true, true, true, true, true]; exact rfl; decide +kernel; exact rfl; intro R; refine ⟨_, (by repeat constructor), ?_⟩;
         (first | (apply EvW.cmp; exact rfl; exact rfl; exact rfl)))
    exact Par.nil
  · repeat (first | exact AllN.nil | (apply AllN.cons; (intro c x; (repeat (first | exact IndA.nil | (apply IndA.skip; decide +kernel) | apply IndA.same))))) 
  · repeat (first | exact AllN.nil | (apply AllN.cons; (intro c x; (repeat (first | exact IndT.nil | (apply IndT.skip; decide +kernel) | apply IndT.same))))) 
  · exact fun _ => rfl
  intro c
  refine ⟨_, (by repeat constructor), ?_⟩
  apply WE.writ
  · (focus ((repeat (first | exact Writ.nil | apply Writ.some | apply Writ.none)); done))
  repeat first
    | refine WE.next ?_
  have hbn := bare_nat hm hp
  refine WC.mid (fun _ : Mem × List (Int × Value) => [(0, ptr jb 0), (3, ptr pb 0)]) (fun s => [.blk jb #[str (st).1, .bool (st).2, ptr mb 0, v', i64 a, i64 nx, .bool d] 41, .own 68 3 (v') (without L p).length ((without L p).flatMap lfC), .blk mb (Value.map (o) :: i64 (s.1).ar :: i64 (s.1).ac :: Value.bool (s.1).off :: ((s.1).pages.map str ++ (s.1).worn.map i64)).toArray 61, .omap o s.2, .blk pb #[i64 (p : Int)] 3]) (fun s => s.1.wf (K + 1) ∧ s.1.off = false ∧ CutM s.2 ∧ (mp = [] → s.2 = []) ∧ (o = none → s.2 = []) ∧ MInv (pgM s.1) all (without L p) ∧ pgM s.1 p = bareB 4096) ?_ (fun s hs => ?_)
  · refine WC.condP rfl (fun hbz => ?_) (fun hbz => ?_)
    · obtain ⟨ct, hct, hct0⟩ := hC.cut m.ar
      have hpl := place_free hoff hp (a := 0) (by decide) (by decide)
      have hwf := erase_wf (p := (p : Int)) (ct := ct) hm (by omega)
      have hout := erase_out hm hI hp hfree ct
      have hoff1 := off_act (m.erased p (m7cutF ct 4096).1) ct hoff
      repeat first
        | refine WC.seq ?_
      repeat refine WC.seq ?_
      refine WC.keep (xs := [.blk jb #[str (st).1, .bool (st).2, ptr mb 0, v', i64 a, i64 nx, .bool d] 41, .own 68 3 (v') (without L p).length ((without L p).flatMap lfC), .blk pb #[i64 (p : Int)] 3, .blk mb (Value.map (o) :: i64 (m).ar :: i64 (m).ac :: Value.bool (m).off :: ((m).pages.map str ++ (m).worn.map i64)).toArray 61, .omap o mp]) (by repeat constructor) ?_
      apply WC.par _ (fun c : Ch => [.blk jb #[str (st).1, .bool (st).2, ptr mb 0, v', i64 a, i64 nx, .bool d] 41, .own 68 3 (v') (without L p).length ((without L p).flatMap lfC), .blk pb #[i64 (p : Int)] 3, .blk mb (Value.map (o) :: i64 (m).ar :: i64 (m).ac :: Value.bool (m).off :: ((m).pages.map str ++ (m).worn.map i64)).toArray 61, .blk mb (Value.map (o) :: i64 ((m.erased p (m7cutF ct 4096).1).act ct).ar :: i64 ((m.erased p (m7cutF ct 4096).1).act ct).ac :: Value.bool ((m.erased p (m7cutF ct 4096).1).act ct).off :: (((m.erased p (m7cutF ct 4096).1).act ct).pages.map str ++ ((m.erased p (m7cutF ct 4096).1).act ct).worn.map i64)).toArray 61, .omap o mp, .omap o (mdel m.ar mp)]) [none, none, none, none, some 5, none, some 5] [none, none, none, some 5, none, some 5, none] [] Try.mixed
      · (focus ((repeat (first | exact Restr.nil | (apply Restr.keep; exact rfl; exact rfl) | (apply Restr.drop; exact rfl))); done))
      · intro c; exact (by repeat constructor)
      · exact rfl
      · decide +kernel
      · decide +kernel
      · intro c
        (apply Par.quiet _ [true, true, true, true, false, true, false]; exact rfl; decide +kernel; exact rfl; intro R; refine ⟨_, (by repeat constructor), ?_⟩;
             (first | (apply EvW.move; exact rfl)))
        (apply Par.quiet _ [true, true, true, true, false, true, false]; exact rfl; decide +kernel; exact rfl; intro R; refine ⟨_, (by repeat constructor), ?_⟩;
             (first | (apply EvW.nilPtr; exact rfl)))
        (apply Par.quiet _ [true, true, true, true, false, true, false]; exact rfl; decide +kernel; exact rfl; intro R; refine ⟨_, (by repeat constructor), ?_⟩;
             (first | (apply EvW.fieldAddr0; exact rfl; exact FldC.eq)))
        (apply Par.quiet _ [true, true, true, true, false, true, false]; exact rfl; decide +kernel; exact rfl; intro R; refine ⟨_, (by repeat constructor), ?_⟩;
             (first | (apply EvW.load; exact rfl; exact ScalC.eq; (focus ((repeat constructor); done)); exact rfl)))
        (apply Par.quiet _ [true, true, true, true, false, true, false]; exact rfl; decide +kernel; exact rfl; intro R; refine ⟨_, (by repeat constructor), ?_⟩;
             (first | (apply EvW.load; exact rfl; exact ScalC.eq; (focus ((repeat constructor); done)); exact rfl)))
        apply Par.eff _ [false, false, false, true, false, true, false] [false, false, false, false, true, false, true] [true, true, true, false, false, false, false]
        · exact rfl
        · exact rfl
        · decide +kernel
        · intro R
          refine ⟨_, _, _, (by repeat constructor), (by repeat constructor), (by repeat constructor), ?_⟩
          apply EffW.callA ([.blk mb (Value.map (o) :: i64 (m).ar :: i64 (m).ac :: Value.bool (m).off :: ((m).pages.map str ++ (m).worn.map i64)).toArray 61, .omap o mp])
          · exact rfl
          · exact fun w => Try.call41 _ w
          · (focus ((repeat constructor); done))
          · exact fun w1 S1 hS1 hs1 ho1 => erase_spec mb o m K mp p ct w1 S1 hS1 hpl hm (by omega) ho hct
          · exact fun _ _ h => h
          · exact fun _ h => TakeT.st (by (focus ((repeat (first | exact TakeT.tail | apply TakeT.cons | exact Take.head | apply Take.tail | apply TakeT.drop)); done))) h
        (apply Par.quiet _ [true, true, true, false, true, false, true]; exact rfl; decide +kernel; exact rfl; intro R; refine ⟨_, (by repeat constructor), ?_⟩;
             (first | (apply EvW.assign; exact rfl)))
        exact Par.nil
      · repeat (first | exact AllN.nil | (apply AllN.cons; (intro c x; (repeat (first | exact IndA.nil | (apply IndA.skip; decide +kernel) | apply IndA.same))))) 
      · repeat (first | exact AllN.nil | (apply AllN.cons; (intro c x; (repeat (first | exact IndT.nil | (apply IndT.skip; decide +kernel) | apply IndT.same))))) 
      · exact fun _ => rfl
      intro c
      refine ⟨_, (by repeat constructor), ?_⟩
      apply WE.writ
      · (focus ((repeat (first | exact Writ.nil | apply Writ.some | apply Writ.none)); done))
      rcases hout with ⟨hcn, he, hI1, hb1⟩ | ⟨hcn, he, hI1⟩
      · rw [he]
        repeat first
          | (apply WL.q; exact rfl; exact rfl; exact rfl; (first | (apply EvW.move; exact rfl) | (apply EvW.cmpF; exact rfl; exact rfl; exact rfl; omega)))
          | refine WC.seq ?_ | refine WC.region ?_ | refine WL.nil ?_ | refine WE.next ?_ | refine WC.skip ?_ | refine WC.condF rfl ?_
        exact WE.mid (((m.erased p (m7cutF ct 4096).1).act ct, mdel m.ar mp)) (⟨hwf, by rw [hoff1, hcn]; rfl, hC.del _, fun h => del_nil h, fun h => del_nil (ho h), hI1, hb1⟩) (by (focus ((repeat (first | exact trivial | (refine ⟨rfl, ?_⟩))); done))) (fun _ h => (by (try simp only []); exact h.keep (by repeat constructor)))
      · rw [he]
        have hsome : ct.isSome = true := Option.isSome_iff_ne_none.2 hcn
        repeat first
          | (apply WL.q; exact rfl; exact rfl; exact rfl; (first | (apply EvW.move; exact rfl) | (apply EvW.assign; exact rfl) | (apply EvW.cmpT; exact rfl; exact rfl; exact rfl; omega)))
          | refine WC.seq ?_ | refine WC.region ?_ | refine WL.nil ?_ | refine WE.next ?_ | refine WC.condT rfl ?_ | refine WC.ret ?_ | refine WE.passRet ?_
        refine WE.keep (xs := [.blk jb #[str (st).1, .bool (st).2, ptr mb 0, v', i64 a, i64 nx, .bool d] 41, .own 68 3 (v') (without L p).length ((without L p).flatMap lfC), .blk mb (Value.map (o) :: i64 ((m.erased p (m7cutF ct 4096).1).act ct).ar :: i64 ((m.erased p (m7cutF ct 4096).1).act ct).ac :: Value.bool ((m.erased p (m7cutF ct 4096).1).act ct).off :: (((m.erased p (m7cutF ct 4096).1).act ct).pages.map str ++ ((m.erased p (m7cutF ct 4096).1).act ct).worn.map i64)).toArray 61, .omap o (mdel m.ar mp)]) (by repeat constructor) ?_
        refine WE.ret1 rfl rfl ?_
        exact ⟨14, _, _, _, _, _, rfl, rfl, wf_up hwf (by omega), hC.del _, fun h => del_nil h, .inr ⟨rfl, by rw [hoff1]; exact hsome, fun h => hcn (hct0 h), hI1⟩⟩
    · have hz : bareL (pgM m p) = 0 := by omega
      have hbb : pgM m p = bareB 4096 := by have := bareL_zero hz; rwa [hI.len p hp] at this
      have hI1 : MInv (pgM m) all (without L p) := by
        have := hI.takeOut (x := bareB 4096) hfree (bare_read 4096) (bareB_length 4096)
        rwa [updP_self _ _ _ hbb] at this
      repeat first
        | refine WC.skip ?_
      exact WE.mid ((m, mp)) (⟨wf_up hm (by omega), hoff, hC, id, ho, hI1, hbb⟩) (by (focus ((repeat (first | exact trivial | (refine ⟨rfl, ?_⟩))); done))) (fun _ h => (by (try simp only []); exact h.keep (by repeat constructor)))
  obtain ⟨m1, mp1⟩ := s
  dsimp only at hs ⊢
  obtain ⟨hm1, hoff1, hC1, hmp1, ho1', hI1, hb1⟩ := hs
  have hpn : p ∉ (without L p).map (·.page) := fun h => by
    obtain ⟨l, hl, e⟩ := List.mem_map.1 h
    exact (mem_without.1 hl).2 e
  have hhead : jf (if st.2 = true then 0 else 3) nx st.1 = headJ (all.length + 1) (safeOf all) := by rw [hnx, hst]; rfl
  have hsl : st.1.length ≤ 1000 := by rw [hst]; exact safeOf_ok hI.ok
  have hHl := headJ_len (all.length + 1) (safeOf all)
  have hHl2 : (headJ (all.length + 1) (safeOf all)).length ≤ 1012 := by rw [hst] at hsl; omega
  have hfew2 := hI.few
  have hk0 : (0 : Int) ≤ if st.2 = true then 0 else 3 := by split <;> decide
  have hk1 : (if st.2 = true then (0 : Int) else 3) < 256 := by split <;> decide
  repeat first
    | (apply WL.q; exact rfl; exact rfl; exact rfl; (first | (apply EvW.move; exact rfl) | (apply EvW.assign; exact rfl) | (apply EvW.nilPtr; exact rfl) | (apply EvW.fieldAddr0; exact rfl; exact FldC.eq) | (apply EvW.load; exact rfl; exact ScalC.eq; (focus ((repeat constructor); done)); exact rfl)))
    | refine WC.seq ?_ | refine WC.region ?_ | refine WL.nil ?_ | refine WE.next ?_
  refine WC.mid (fun _ : Unit => [(0, ptr jb 0), (3, ptr pb 0), (5, i64 (if st.2 = true then 0 else 3))]) (fun _ => [.blk jb #[str (st).1, .bool (st).2, ptr mb 0, v', i64 a, i64 nx, .bool d] 41, .own 68 3 (v') (without L p).length ((without L p).flatMap lfC), .blk mb (Value.map (o) :: i64 (m1).ar :: i64 (m1).ac :: Value.bool (m1).off :: ((m1).pages.map str ++ (m1).worn.map i64)).toArray 61, .omap o mp1, .blk pb #[i64 (p : Int)] 3]) (fun _ => True) ?_ (fun _ _ => ?_)
  · cases hsb : st.2 with
    | true =>
      refine WC.condT rfl ?_
      repeat first
        | (apply WL.q; exact rfl; exact rfl; exact rfl; (first | (apply EvW.assign; exact rfl)))
        | refine WC.region ?_ | refine WL.nil ?_
      exact WE.mid (()) (trivial) (by (focus ((repeat (first | exact trivial | (refine ⟨rfl, ?_⟩))); done))) (fun _ h => (by (try simp only []); exact h.keep (by repeat constructor)))
    | false =>
      refine WC.condF rfl ?_
      repeat first
        | refine WC.skip ?_
      exact WE.mid (()) (trivial) (by (focus ((repeat (first | exact trivial | (refine ⟨rfl, ?_⟩))); done))) (fun _ h => (by (try simp only []); exact h.keep (by repeat constructor)))
  repeat first
    | refine WC.seq ?_
  repeat refine WC.seq ?_
  refine WC.keep (xs := [.blk jb #[str (st).1, .bool (st).2, ptr mb 0, v', i64 a, i64 nx, .bool d] 41, .own 68 3 (v') (without L p).length ((without L p).flatMap lfC), .blk pb #[i64 (p : Int)] 3, .blk mb (Value.map (o) :: i64 (m1).ar :: i64 (m1).ac :: Value.bool (m1).off :: ((m1).pages.map str ++ (m1).worn.map i64)).toArray 61, .omap o mp1]) (by repeat constructor) ?_
  apply WC.par _ (fun c : Ch => [.blk jb #[str (st).1, .bool (st).2, ptr mb 0, v', i64 a, i64 nx, .bool d] 41, .own 68 3 (v') (without L p).length ((without L p).flatMap lfC), .blk pb #[i64 (p : Int)] 3, .blk mb (Value.map (o) :: i64 (m1).ar :: i64 (m1).ac :: Value.bool (m1).off :: ((m1).pages.map str ++ (m1).worn.map i64)).toArray 61, .omap o mp1]) [none, none, none, none, none] [none, none, none, none, none] [] Try.mixed
  · (focus ((repeat (first | exact Restr.nil | (apply Restr.keep; exact rfl; exact rfl) | (apply Restr.drop; exact rfl))); done))
  · intro c; exact (by repeat constructor)
  · exact rfl
  · decide +kernel
  · decide +kernel
  · intro c
    (apply Par.quiet _ [true, true, true, true, true]; exact rfl; decide +kernel; exact rfl; intro R; refine ⟨_, (by repeat constructor), ?_⟩;
         (first | (apply EvW.move; exact rfl)))
    (apply Par.quiet _ [true, true, true, true, true]; exact rfl; decide +kernel; exact rfl; intro R; refine ⟨_, (by repeat constructor), ?_⟩;
         (first | (apply EvW.move; exact rfl)))
    (apply Par.quiet _ [true, true, true, true, true]; exact rfl; decide +kernel; exact rfl; intro R; refine ⟨_, (by repeat constructor), ?_⟩;
         (first | (apply EvW.nilPtr; exact rfl)))
    (apply Par.quiet _ [true, true, true, true, true]; exact rfl; decide +kernel; exact rfl; intro R; refine ⟨_, (by repeat constructor), ?_⟩;
         (first | (apply EvW.fieldAddr0; exact rfl; exact FldC.eq)))
    (apply Par.quiet _ [true, true, true, true, true]; exact rfl; decide +kernel; exact rfl; intro R; refine ⟨_, (by repeat constructor), ?_⟩;
         (first | (apply EvW.load; exact rfl; exact ScalC.eq; (focus ((repeat constructor); done)); exact rfl)))
    (apply Par.quiet _ [true, true, true, true, true]; exact rfl; decide +kernel; exact rfl; intro R; refine ⟨_, (by repeat constructor), ?_⟩;
         (first | (apply EvW.move; exact rfl)))
    (apply Par.quiet _ [true, true, true, true, true]; exact rfl; decide +kernel; exact rfl; intro R; refine ⟨_, (by repeat constructor), ?_⟩;
         (first | (apply EvW.nilPtr; exact rfl)))
    (apply Par.quiet _ [true, true, true, true, true]; exact rfl; decide +kernel; exact rfl; intro R; refine ⟨_, (by repeat constructor), ?_⟩;
         (first | (apply EvW.fieldAddr0; exact rfl; exact FldC.eq)))
    (apply Par.quiet _ [true, true, true, true, true]; exact rfl; decide +kernel; exact rfl; intro R; refine ⟨_, (by repeat constructor), ?_⟩;
         (first | (apply EvW.fieldAddr0; exact rfl; exact FldC.eq)))
    (apply Par.quiet _ [true, true, true, true, true]; exact rfl; decide +kernel; exact rfl; intro R; refine ⟨_, (by repeat constructor), ?_⟩;
         (first | (apply EvW.load; exact rfl; exact ScalC.eq; (focus ((repeat constructor); done)); exact rfl)))
    apply Par.quiet _ [true, true, true, true, true]
    · exact rfl
    · decide +kernel
    · exact rfl
    · intro R
      refine ⟨_, (by repeat constructor), ?_⟩
      apply EvW.callK ([])
      · exact rfl
      · exact fun w => Try.call25 _ w
      · (focus ((repeat constructor); done))
      · exact fun w1 S1 hS1 hs1 ho1 => frame_spec (if st.2 = true then 0 else 3) nx st.1 w1 S1 hS1 hk0 hk1 (by omega) (by omega) hsl
      · exact fun _ _ h => h
    (apply Par.quiet _ [true, true, true, true, true]; exact rfl; decide +kernel; exact rfl; intro R; refine ⟨_, (by repeat constructor), ?_⟩;
         (first | (apply EvW.assign; exact rfl)))
    exact Par.nil
  · repeat (first | exact AllN.nil | (apply AllN.cons; (intro c x; (repeat (first | exact IndA.nil | (apply IndA.skip; decide +kernel) | apply IndA.same))))) 
  · repeat (first | exact AllN.nil | (apply AllN.cons; (intro c x; (repeat (first | exact IndT.nil | (apply IndT.skip; decide +kernel) | apply IndT.same))))) 
  · exact fun _ => rfl
  intro c
  refine ⟨_, (by repeat constructor), ?_⟩
  apply WE.writ
  · (focus ((repeat (first | exact Writ.nil | apply Writ.some | apply Writ.none)); done))
  rw [hhead]
  have hlt2 : (without L p).length ≤ 24 := Nat.le_trans (List.length_filter_le _ _) hfew
  have hbad : m1.bad (p : Int) 0 (headJ (all.length + 1) (safeOf all)) = 0 := bad_ok (place_free hoff1 hp (by decide) (by decide)) (by omega) (by
    rw [page_pg, hb1, show (0 : Int).toNat = 0 from rfl, List.drop_zero]
    unfold bareB
    rw [List.take_replicate]
    congr 1; omega)
  obtain ⟨ct, hct, hct0⟩ := hC1.cut m1.ar
  have hwf := burn_wf (ct := ct) hm1 hbad
  have hout := head_out hm1 hI1 hp hpn hb1 ct
  have hoff2 := off_act (m1.burnt p 0 (headJ (all.length + 1) (safeOf all)) (m7cutF ct (headJ (all.length + 1) (safeOf all)).length).1) ct hoff1
  generalize headJ (all.length + 1) (safeOf all) = H at hbad hwf hout hoff2 hHl hHl2
  repeat first
    | refine WC.seq ?_ | refine WE.next ?_
  repeat refine WC.seq ?_
  refine WC.keep (xs := [.blk jb #[str (st).1, .bool (st).2, ptr mb 0, v', i64 a, i64 nx, .bool d] 41, .own 68 3 (v') (without L p).length ((without L p).flatMap lfC), .blk pb #[i64 (p : Int)] 3, .blk mb (Value.map (o) :: i64 (m1).ar :: i64 (m1).ac :: Value.bool (m1).off :: ((m1).pages.map str ++ (m1).worn.map i64)).toArray 61, .omap o mp1]) (by repeat constructor) ?_
  apply WC.par _ (fun c : Ch => [.blk jb #[str (st).1, .bool (st).2, ptr mb 0, v', i64 a, i64 nx, .bool d] 41, .own 68 3 (v') (without L p).length ((without L p).flatMap lfC), .blk pb #[i64 (p : Int)] 3, .blk mb (Value.map (o) :: i64 (m1).ar :: i64 (m1).ac :: Value.bool (m1).off :: ((m1).pages.map str ++ (m1).worn.map i64)).toArray 61, .blk mb (Value.map (o) :: i64 ((m1.burnt p 0 H (m7cutF ct H.length).1).act ct).ar :: i64 ((m1.burnt p 0 H (m7cutF ct H.length).1).act ct).ac :: Value.bool ((m1.burnt p 0 H (m7cutF ct H.length).1).act ct).off :: (((m1.burnt p 0 H (m7cutF ct H.length).1).act ct).pages.map str ++ ((m1.burnt p 0 H (m7cutF ct H.length).1).act ct).worn.map i64)).toArray 61, .omap o mp1, .omap o (mdel m1.ar mp1), .blk (c 6).1 #[str H] 9]) [none, none, none, none, some 7, none, some 7, some 6] [none, none, none, some 7, none, some 7, none, none] [(6, fun x => .slice (some ⟨x.1, 0, none⟩) 1 1)] Try.mixed
  · (focus ((repeat (first | exact Restr.nil | (apply Restr.keep; exact rfl; exact rfl) | (apply Restr.drop; exact rfl))); done))
  · intro c; exact (by repeat constructor)
  · exact rfl
  · decide +kernel
  · decide +kernel
  · intro c
    (apply Par.quiet _ [true, true, true, true, false, true, false, false]; exact rfl; decide +kernel; exact rfl; intro R; refine ⟨_, (by repeat constructor), ?_⟩;
         (first | (apply EvW.move; exact rfl)))
    (apply Par.quiet _ [true, true, true, true, false, true, false, false]; exact rfl; decide +kernel; exact rfl; intro R; refine ⟨_, (by repeat constructor), ?_⟩;
         (first | (apply EvW.nilPtr; exact rfl)))
    (apply Par.quiet _ [true, true, true, true, false, true, false, false]; exact rfl; decide +kernel; exact rfl; intro R; refine ⟨_, (by repeat constructor), ?_⟩;
         (first | (apply EvW.fieldAddr0; exact rfl; exact FldC.eq)))
    (apply Par.quiet _ [true, true, true, true, false, true, false, false]; exact rfl; decide +kernel; exact rfl; intro R; refine ⟨_, (by repeat constructor), ?_⟩;
         (first | (apply EvW.load; exact rfl; exact ScalC.eq; (focus ((repeat constructor); done)); exact rfl)))
    (apply Par.quiet _ [true, true, true, true, false, true, false, false]; exact rfl; decide +kernel; exact rfl; intro R; refine ⟨_, (by repeat constructor), ?_⟩;
         (first | (apply EvW.load; exact rfl; exact ScalC.eq; (focus ((repeat constructor); done)); exact rfl)))
    (apply Par.quiet _ [true, true, true, true, false, true, false, false]; exact rfl; decide +kernel; exact rfl; intro R; refine ⟨_, (by repeat constructor), ?_⟩;
         (first | (apply EvW.move; exact rfl)))
    (apply Par.new _ [false, false, false, false, false, false, false, false] [false, false, false, false, false, false, false, true] [true, true, true, true, false, true, false, false]; exact rfl; exact rfl; decide +kernel; intro R; refine ⟨_, _, _, (by repeat constructor), (by repeat constructor), (fun x => (by repeat constructor)), ?_⟩; (apply NewW.buildSlice; exact UndC.eq; exact SzC.eq; exact ZvC.eq; exact rfl; exact rfl; exact rfl; (focus ((repeat (first | exact Flat.nil | (apply Flat.one; (first | exact rfl | assumption)) | (apply Flat.cons; exact rfl; exact rfl))); done)); exact rfl; exact rfl; exact fun _ => rfl))
    apply Par.eff _ [false, false, false, true, false, true, false, false] [false, false, false, false, true, false, true, false] [true, true, true, false, false, false, false, true]
    · exact rfl
    · exact rfl
    · decide +kernel
    · intro R
      refine ⟨_, _, _, (by repeat constructor), (by repeat constructor), (by repeat constructor), ?_⟩
      apply EffW.callA ([.blk mb (Value.map (o) :: i64 (m1).ar :: i64 (m1).ac :: Value.bool (m1).off :: ((m1).pages.map str ++ (m1).worn.map i64)).toArray 61, .omap o mp1])
      · exact rfl
      · exact fun w => Try.call26 _ w
      · (focus ((repeat constructor); done))
      · exact fun w1 S1 hS1 hs1 ho1 => burn_spec mb o m1 (K + 1) mp1 p 0 _ [H] H ct w1 S1 hS1 ((ho1 (.blk _ #[str H] 9) _ (by repeat constructor)).blkRow rfl (fun k u h => by simpa using h) (by simp)) (by simp) (by simp) hbad hm1 (by omega) ho1' hct
      · exact fun _ _ h => h
      · exact fun _ h => TakeT.st (by (focus ((repeat (first | exact TakeT.tail | apply TakeT.cons | exact Take.head | apply Take.tail | apply TakeT.drop)); done))) h
    (apply Par.quiet _ [true, true, true, false, true, false, true, true]; exact rfl; decide +kernel; exact rfl; intro R; refine ⟨_, (by repeat constructor), ?_⟩;
         (first | (apply EvW.assign; exact rfl)))
    exact Par.nil
  · repeat (first | exact AllN.nil | (apply AllN.cons; (intro c x; (repeat (first | exact IndA.nil | (apply IndA.skip; decide +kernel) | apply IndA.same))))) 
  · repeat (first | exact AllN.nil | (apply AllN.cons; (intro c x; (repeat (first | exact IndT.nil | (apply IndT.skip; decide +kernel) | apply IndT.same))))) 
  · exact fun _ => rfl
  intro c
  refine ⟨_, (by repeat constructor), ?_⟩
  apply WE.writ
  · (focus ((repeat (first | exact Writ.nil | apply Writ.some | apply Writ.none)); done))
  generalize (c 6).1 = b6
  rcases hout with ⟨hcn, he, hI2⟩ | ⟨hcn, he, hI2⟩
  rotate_left
  · rw [he]
    have hsome : ct.isSome = true := Option.isSome_iff_ne_none.2 hcn
    repeat first
      | (apply WL.q; exact rfl; exact rfl; exact rfl; (first | (apply EvW.move; exact rfl) | (apply EvW.assign; exact rfl) | (apply EvW.cmpT; exact rfl; exact rfl; exact rfl; omega)))
      | refine WC.seq ?_ | refine WC.region ?_ | refine WL.nil ?_ | refine WE.next ?_ | refine WC.condT rfl ?_ | refine WC.ret ?_ | refine WE.passRet ?_
    refine WE.keep (xs := [.blk jb #[str (st).1, .bool (st).2, ptr mb 0, v', i64 a, i64 nx, .bool d] 41, .own 68 3 (v') (without L p).length ((without L p).flatMap lfC), .blk mb (Value.map (o) :: i64 ((m1.burnt p 0 H (m7cutF ct H.length).1).act ct).ar :: i64 ((m1.burnt p 0 H (m7cutF ct H.length).1).act ct).ac :: Value.bool ((m1.burnt p 0 H (m7cutF ct H.length).1).act ct).off :: (((m1.burnt p 0 H (m7cutF ct H.length).1).act ct).pages.map str ++ ((m1.burnt p 0 H (m7cutF ct H.length).1).act ct).worn.map i64)).toArray 61, .omap o (mdel m1.ar mp1)]) (by repeat constructor) ?_
    refine WE.ret1 rfl rfl ?_
    exact ⟨14, _, _, _, _, _, rfl, rfl, hwf, hC1.del _, fun h => del_nil (hmp1 h), .inr ⟨rfl, by rw [hoff2]; exact hsome, fun h => hcn (hct0 (hmp1 h)), hI2⟩⟩
  rw [he]
  have hoff3 : ((m1.burnt p 0 H (m7cutF ct H.length).1).act ct).off = false := by rw [hoff2, hcn]; rfl
  generalize (m1.burnt p 0 H (m7cutF ct H.length).1).act ct = m2 at hwf hI2 hoff3
  repeat first
    | (apply WL.q; exact rfl; exact rfl; exact rfl; (first | (apply EvW.move; exact rfl) | (apply EvW.cmpF; exact rfl; exact rfl; exact rfl; omega)))
    | refine WC.seq ?_ | refine WC.region ?_ | refine WL.nil ?_ | refine WE.next ?_ | refine WC.skip ?_ | refine WC.condF rfl ?_
  (first | refine WL.slOwn (v := v') (by repeat constructor) ?_ | refine WC.slOwn (v := v') (by repeat constructor) ?_)
  intro hc_v' ho_v'
  have hlw : ((without L p).length : Nat) = (without L p).length := rfl
  repeat refine WC.seq ?_
  refine WC.keep (xs := [.blk jb #[str (st).1, .bool (st).2, ptr mb 0, v', i64 a, i64 nx, .bool d] 41, .own 68 3 (v') (without L p).length ((without L p).flatMap lfC), .blk pb #[i64 (p : Int)] 3, .blk mb (Value.map (o) :: i64 (m2).ar :: i64 (m2).ac :: Value.bool (m2).off :: ((m2).pages.map str ++ (m2).worn.map i64)).toArray 61, .omap o (mdel m1.ar mp1)]) (by repeat constructor) ?_
  apply WC.par _ (fun c : Ch => [.blk jb #[str (st).1, .bool (st).2, ptr mb 0, v', i64 a, i64 nx, .bool d] 41, .blk jb #[str (st).1, .bool (st).2, ptr mb 0, (c 12).2, i64 a, i64 nx, .bool d] 41, .own 68 3 (v') (without L p).length ((without L p).flatMap lfC), .own 68 3 ((c 12).2) ((without L p).length + 1) ((without L p).flatMap lfC ++ [i64 p, i64 nx, i64 0]), .blk pb #[i64 (p : Int)] 3, .blk mb (Value.map (o) :: i64 (m2).ar :: i64 (m2).ac :: Value.bool (m2).off :: ((m2).pages.map str ++ (m2).worn.map i64)).toArray 61, .omap o (mdel m1.ar mp1), .blk (c 11).1 #[i64 p, i64 nx, i64 0] 68]) [none, some 15, none, some 12, none, none, none, some 11] [some 15, none, some 12, none, none, none, none, none] [(11, fun x => .slice (some ⟨x.1, 0, none⟩) 1 1), (12, fun x => x.2)] Try.mixed
  · (focus ((repeat (first | exact Restr.nil | (apply Restr.keep; exact rfl; exact rfl) | (apply Restr.drop; exact rfl))); done))
  · intro c; exact (by repeat constructor)
  · exact rfl
  · decide +kernel
  · decide +kernel
  · intro c
    (apply Par.quiet _ [true, false, false, false, true, true, true, false]; exact rfl; decide +kernel; exact rfl; intro R; refine ⟨_, (by repeat constructor), ?_⟩;
         (first | (apply EvW.move; exact rfl)))
    (apply Par.quiet _ [true, false, true, false, true, true, true, false]; exact rfl; decide +kernel; exact rfl; intro R; refine ⟨_, (by repeat constructor), ?_⟩;
         (first | (apply EvW.move; exact rfl)))
    (apply Par.quiet _ [true, false, true, false, true, true, true, false]; exact rfl; decide +kernel; exact rfl; intro R; refine ⟨_, (by repeat constructor), ?_⟩;
         (first | (apply EvW.nilPtr; exact rfl)))
    (apply Par.quiet _ [true, false, true, false, true, true, true, false]; exact rfl; decide +kernel; exact rfl; intro R; refine ⟨_, (by repeat constructor), ?_⟩;
         (first | (apply EvW.fieldAddr0; exact rfl; exact FldC.eq)))
    (apply Par.quiet _ [true, false, true, false, true, true, true, false]; exact rfl; decide +kernel; exact rfl; intro R; refine ⟨_, (by repeat constructor), ?_⟩;
         (first | (apply EvW.load; exact rfl; exact ScalC.eq; (focus ((repeat constructor); done)); exact rfl)))
    (apply Par.quiet _ [true, false, true, false, true, true, true, false]; exact rfl; decide +kernel; exact rfl; intro R; refine ⟨_, (by repeat constructor), ?_⟩;
         (first | (apply EvW.load; exact rfl; exact ScalC.eq; (focus ((repeat constructor); done)); exact rfl)))
    (apply Par.quiet _ [true, false, true, false, true, true, true, false]; exact rfl; decide +kernel; exact rfl; intro R; refine ⟨_, (by repeat constructor), ?_⟩;
         (first | (apply EvW.move; exact rfl)))
    (apply Par.quiet _ [true, false, true, false, true, true, true, false]; exact rfl; decide +kernel; exact rfl; intro R; refine ⟨_, (by repeat constructor), ?_⟩;
         (first | (apply EvW.nilPtr; exact rfl)))
    (apply Par.quiet _ [true, false, true, false, true, true, true, false]; exact rfl; decide +kernel; exact rfl; intro R; refine ⟨_, (by repeat constructor), ?_⟩;
         (first | (apply EvW.fieldAddr0; exact rfl; exact FldC.eq)))
    (apply Par.quiet _ [true, false, true, false, true, true, true, false]; exact rfl; decide +kernel; exact rfl; intro R; refine ⟨_, (by repeat constructor), ?_⟩;
         (first | (apply EvW.load; exact rfl; exact ScalC.eq; (focus ((repeat constructor); done)); exact rfl)))
    (apply Par.quiet _ [true, false, true, false, true, true, true, false]; exact rfl; decide +kernel; exact rfl; intro R; refine ⟨_, (by repeat constructor), ?_⟩;
         (first | (apply EvW.build; exact PlC.eq; exact ZvC.eq; exact rfl; exact rfl; (focus ((repeat (first | exact Fills.nil | (apply Fills.cons; exact rfl; (first | assumption | exact rfl); exact rfl) | exact SetMany.nil | apply SetMany.cons | apply SetMany.succ)); done)))))
    (apply Par.new _ [false, false, false, false, false, false, false, false] [false, false, false, false, false, false, false, true] [true, false, true, false, true, true, true, false]; exact rfl; exact rfl; decide +kernel; intro R; refine ⟨_, _, _, (by repeat constructor), (by repeat constructor), (fun x => (by repeat constructor)), ?_⟩; (apply NewW.buildSlice; exact UndC.eq; exact SzC.eq; exact ZvC.eq; exact rfl; exact rfl; exact rfl; (focus ((repeat (first | exact Flat.nil | (apply Flat.one; (first | exact rfl | assumption)) | (apply Flat.cons; exact rfl; exact rfl))); done)); exact rfl; exact rfl; exact fun _ => rfl))
    apply Par.new _ [false, false, true, false, false, false, false, false] [false, false, false, true, false, false, false, false] [true, false, false, false, true, true, true, true]
    · exact rfl
    · exact rfl
    · decide +kernel
    · intro R
      refine ⟨_, _, _, (by repeat constructor), (by repeat constructor), (fun x => (by repeat constructor)), ?_⟩
      (apply NewW.append; exact rfl; exact rfl; exact UndC.eq; exact SzC.eq; exact ByC.eq; exact ZvC.eq; exact rfl; (first | exact notInt_sl UndC.eq | exact notInt_st UndC.eq); exact rfl; (focus ((repeat constructor); done)))
      · exact adds_blk (by repeat constructor) rfl rfl
      · (omega)
      · exact fun _ _ h => TakeT.st (by (focus ((repeat (first | exact TakeT.tail | apply TakeT.cons | exact Take.head | apply Take.tail | apply TakeT.drop)); done))) h
    (apply Par.quiet _ [true, false, false, true, true, true, true, true]; exact rfl; decide +kernel; exact rfl; intro R; refine ⟨_, (by repeat constructor), ?_⟩;
         (first | (apply EvW.nilPtr; exact rfl)))
    (apply Par.quiet _ [true, false, false, true, true, true, true, true]; exact rfl; decide +kernel; exact rfl; intro R; refine ⟨_, (by repeat constructor), ?_⟩;
         (first | (apply EvW.fieldAddr0; exact rfl; exact FldC.eq)))
    apply Par.eff _ [true, false, false, false, false, false, false, false] [false, true, false, false, false, false, false, false] [false, false, false, true, true, true, true, true]
    · exact rfl
    · exact rfl
    · decide +kernel
    · intro R
      refine ⟨_, _, _, (by repeat constructor), (by repeat constructor), (by repeat constructor), ?_⟩
      (apply EffW.storeSl; exact rfl; exact rfl; (focus ((repeat constructor); done)); exact SzC.eq; (focus ((repeat constructor); done)))
    exact Par.nil
  · repeat (first | exact AllN.nil | (apply AllN.cons; (intro c x; (repeat (first | exact IndA.nil | (apply IndA.skip; decide +kernel) | apply IndA.same))))) 
  · repeat (first | exact AllN.nil | (apply AllN.cons; (intro c x; (repeat (first | exact IndT.nil | (apply IndT.skip; decide +kernel) | apply IndT.same))))) 
  · exact fun _ => rfl
  intro c
  refine ⟨_, (by repeat constructor), ?_⟩
  apply WE.writ
  · (focus ((repeat (first | exact Writ.nil | apply Writ.some | apply Writ.none)); done))
  generalize (c 11).1 = b11
  generalize (c 12).2 = v2
  have eL : HP.own 68 3 v2 ((without L p).length + 1) ((without L p).flatMap lfC ++ [i64 p, i64 nx, i64 0]) = .own 68 3 (v2) (without L p ++ [(⟨p, all.length + 1, 0⟩ : Lf)]).length ((without L p ++ [(⟨p, all.length + 1, 0⟩ : Lf)]).flatMap lfC) := by
    rw [List.flatMap_append, List.length_append, hnx]; rfl
  rw [eL]
  repeat first
    | (apply WL.q; exact rfl; exact rfl; exact rfl; (first | (apply EvW.move; exact rfl) | (apply EvW.assign; exact rfl) | (apply EvW.nilPtr; exact rfl) | (apply EvW.fieldAddr0; exact rfl; exact FldC.eq) | (apply EvW.lenS; exact rfl; exact UndC.eq)))
    | refine WC.seq ?_ | refine WC.region ?_ | refine WL.nil ?_ | refine WE.next ?_ | refine WC.ret ?_ | (apply WL.store; exact rfl; exact rfl; (first | assumption | exact rfl); exact SzC.eq; (first | assumption | exact rfl); (focus ((repeat constructor); done)))
  refine WE.keep (xs := [.blk jb #[str (st).1, .bool (st).2, ptr mb 0, v2, i64 (H.length : Int), i64 nx, .bool d] 41, .own 68 3 (v2) (without L p ++ [(⟨p, all.length + 1, 0⟩ : Lf)]).length ((without L p ++ [(⟨p, all.length + 1, 0⟩ : Lf)]).flatMap lfC), .blk mb (Value.map (o) :: i64 (m2).ar :: i64 (m2).ac :: Value.bool (m2).off :: ((m2).pages.map str ++ (m2).worn.map i64)).toArray 61, .omap o (mdel m1.ar mp1)]) (by repeat constructor) ?_
  refine WE.ret1 rfl rfl ?_
  exact ⟨0, m2, _, v2, _, _, rfl, rfl, hwf, hC1.del _, fun h => del_nil (hmp1 h), .inl ⟨rfl, hoff3, without L p, _, H.length, rfl, rfl, hI2, hHl2, rfl, rfl⟩⟩
end Go.Proofs.Ytknclcjmfgdphaa
namespace Go.Proofs.Ytknclcjmfgdphaa
open Go.RowKit Go.BK
theorem jnote_spec (jb mb : Nat) (st : St8) (lv : Value) (a nx : Int) (d : Bool) (r : Rec) (w : World) (S : BSet) (hS : (sepL [.blk jb #[str (st).1, .bool (st).2, ptr mb 0, lv, i64 a, i64 nx, .bool d] 41]).sat S w)  :
    Tri Try.prog 21 #[ptr jb 0, i64 r.kind, str r.text] w S fun u A => u = .tuple #[] ∧ A = [.blk jb #[str (noteF st r).1, .bool (noteF st r).2, ptr mb 0, lv, i64 a, i64 nx, .bool d] 41] := by
  refine Tri.enter (l := [ptr jb 0, i64 r.kind, str r.text]) Try.func21 rfl Try.ntmps21 rfl [(0, ptr jb 0), (1, i64 r.kind), (2, str r.text)] (subA rfl) hS ?_
  unfold noteF
  by_cases h : r.kind = 1
  · rw [if_pos h]
    repeat first
      | (apply WL.q; exact rfl; exact rfl; exact rfl; (first | (apply EvW.move; exact rfl) | (apply EvW.nilPtr; exact rfl) | (apply EvW.fieldAddr0; exact rfl; exact FldC.eq) | (apply EvW.cmpT; exact rfl; exact rfl; exact rfl; omega)))
      | refine WC.seq ?_ | refine WC.region ?_ | refine WL.nil ?_ | refine WE.next ?_ | refine WC.condT rfl ?_ | (apply WL.store; exact rfl; exact rfl; (first | assumption | exact rfl); exact SzC.eq; (first | assumption | exact rfl); (focus ((repeat constructor); done)))
    refine WE.keep (xs := [.blk jb #[str (((r.text, true) : St8)).1, .bool (((r.text, true) : St8)).2, ptr mb 0, lv, i64 a, i64 nx, .bool d] 41]) (by repeat constructor) ?_
    first | refine WE.end0 rfl ?_ | refine WE.ret0 rfl ?_
    exact ⟨rfl, rfl⟩
  · rw [if_neg h]
    repeat first
      | (apply WL.q; exact rfl; exact rfl; exact rfl; (first | (apply EvW.move; exact rfl) | (apply EvW.cmpF; exact rfl; exact rfl; exact rfl; omega)))
      | refine WC.seq ?_ | refine WC.region ?_ | refine WL.nil ?_ | refine WE.next ?_ | refine WC.skip ?_ | refine WC.condF rfl ?_
    refine WE.keep (xs := [.blk jb #[str (st).1, .bool (st).2, ptr mb 0, lv, i64 a, i64 nx, .bool d] 41]) (by repeat constructor) ?_
    first | refine WE.end0 rfl ?_ | refine WE.ret0 rfl ?_
    exact ⟨rfl, rfl⟩
theorem next_spec' (jb mb : Nat) (st : St8) (lv : Value) (a nx : Int) (d : Bool) (w : World) (S : BSet) (hS : (sepL [.blk jb #[str (st).1, .bool (st).2, ptr mb 0, lv, i64 a, i64 nx, .bool d] 41]).sat S w)  :
    Tri Try.prog 12 #[ptr jb 0] w S fun u A => u = i64 nx ∧ A = [.blk jb #[str (st).1, .bool (st).2, ptr mb 0, lv, i64 a, i64 nx, .bool d] 41] := by
  refine Tri.enter (l := [ptr jb 0]) Try.func12 rfl Try.ntmps12 rfl [(0, ptr jb 0)] (subA rfl) hS ?_
  repeat first
    | (apply WL.q; exact rfl; exact rfl; exact rfl; (first | (apply EvW.move; exact rfl) | (apply EvW.assign; exact rfl) | (apply EvW.nilPtr; exact rfl) | (apply EvW.fieldAddr0; exact rfl; exact FldC.eq) | (apply EvW.load; exact rfl; exact ScalC.eq; (focus ((repeat constructor); done)); exact rfl)))
    | refine WC.seq ?_ | refine WC.region ?_ | refine WL.nil ?_ | refine WE.next ?_ | refine WC.ret ?_
  refine WE.ret1 rfl rfl ?_
  exact ⟨rfl, rfl⟩
theorem safe_spec (jb mb : Nat) (st : St8) (lv : Value) (a nx : Int) (d : Bool) (w : World) (S : BSet) (hS : (sepL [.blk jb #[str (st).1, .bool (st).2, ptr mb 0, lv, i64 a, i64 nx, .bool d] 41]).sat S w)  :
    Tri Try.prog 15 #[ptr jb 0] w S fun u A => u = .tuple #[str st.1, .bool st.2] ∧ A = [.blk jb #[str (st).1, .bool (st).2, ptr mb 0, lv, i64 a, i64 nx, .bool d] 41] := by
  refine Tri.enter (l := [ptr jb 0]) Try.func15 rfl Try.ntmps15 rfl [(0, ptr jb 0)] (subA rfl) hS ?_
  repeat first
    | (apply WL.q; exact rfl; exact rfl; exact rfl; (first | (apply EvW.assign; exact rfl)))
    | refine WC.seq ?_ | refine WC.region ?_ | refine WL.nil ?_ | refine WE.next ?_
  repeat refine WC.seq ?_
  apply WC.drawQ Try.mixed
  · (focus ((repeat (first | exact Restr.nil | (apply Restr.keep; exact rfl; exact rfl) | (apply Restr.drop; exact rfl))); done))
  · exact rfl
  · decide +kernel
  · decide +kernel
  · repeat first
      | exact Draws.nil
      | (apply Draws.skip; exact rfl; exact rfl)
      | (apply Draws.q0; exact rfl
         (first | (apply EvW.move; exact rfl) | (apply EvW.assign; exact rfl) | (apply EvW.nilPtr; exact rfl) | (apply EvW.fieldAddr0; exact rfl; exact FldC.eq) | (apply EvW.load; exact rfl; exact ScalC.eq; (focus ((repeat constructor); done)); exact rfl)))
  apply WE.writ
  · (focus ((repeat (first | exact Writ.nil | apply Writ.some | apply Writ.none)); done))
  repeat first
    | refine WE.next ?_ | refine WC.ret ?_
  refine WE.retN (l := [2, 3]) rfl rfl rfl ?_
  exact ⟨rfl, rfl⟩
theorem jdown_spec (jb mb : Nat) (o : Option Nat) (m : Mem) (st : St8) (lv : Value) (a nx : Int) (d r : Bool) (w : World) (S : BSet) (hS : (sepL [.blk jb #[str (st).1, .bool (st).2, ptr mb 0, lv, i64 a, i64 nx, .bool d] 41, .blk mb (Value.map (o) :: i64 (m).ar :: i64 (m).ac :: Value.bool (m).off :: ((m).pages.map str ++ (m).worn.map i64)).toArray 61]).sat S w) (hr : (d || m.off) = r) :
    Tri Try.prog 23 #[ptr jb 0] w S fun u A => u = .bool r ∧ A = [.blk jb #[str (st).1, .bool (st).2, ptr mb 0, lv, i64 a, i64 nx, .bool d] 41, .blk mb (Value.map (o) :: i64 (m).ar :: i64 (m).ac :: Value.bool (m).off :: ((m).pages.map str ++ (m).worn.map i64)).toArray 61] := by
  refine Tri.enter (l := [ptr jb 0]) Try.func23 rfl Try.ntmps23 rfl [(0, ptr jb 0)] (subA rfl) hS ?_
  subst hr
  cases d with
  | true =>
    repeat first
      | (apply WL.q; exact rfl; exact rfl; exact rfl; (first | (apply EvW.move; exact rfl) | (apply EvW.assign; exact rfl) | (apply EvW.nilPtr; exact rfl) | (apply EvW.fieldAddr0; exact rfl; exact FldC.eq) | (apply EvW.load; exact rfl; exact ScalC.eq; (focus ((repeat constructor); done)); exact rfl) | (apply EvW.pickT; exact rfl; exact rfl)))
      | refine WC.seq ?_ | refine WC.region ?_ | refine WL.nil ?_ | refine WE.next ?_ | refine WC.ret ?_ | refine WL.unwanted rfl rfl rfl rfl ?_
    refine WE.ret1 rfl rfl ?_
    exact ⟨rfl, rfl⟩
  | false =>
    repeat first
      | (apply WL.q; exact rfl; exact rfl; exact rfl; (first | (apply EvW.move; exact rfl) | (apply EvW.assign; exact rfl) | (apply EvW.nilPtr; exact rfl) | (apply EvW.fieldAddr0; exact rfl; exact FldC.eq) | (apply EvW.load; exact rfl; exact ScalC.eq; (focus ((repeat constructor); done)); exact rfl)))
      | refine WC.seq ?_ | refine WC.region ?_ | refine WL.nil ?_ | refine WE.next ?_ | refine WL.wanted rfl rfl rfl ?_
    try refine WL.wanted rfl rfl rfl ?_
    apply WL.callA ([.blk mb (Value.map (o) :: i64 (m).ar :: i64 (m).ac :: Value.bool (m).off :: ((m).pages.map str ++ (m).worn.map i64)).toArray 61])
    · exact rfl
    · exact rfl
    · exact fun w => Try.call18 _ w
    · (focus ((repeat constructor); done))
    · exact fun w1 S1 hS1 hs1 ho1 => down_spec mb o m m.off w1 S1 hS1 rfl
    rintro _ _ ⟨rfl, rfl⟩
    first | refine WL.app4 ?_ | refine WL.app3 ?_ | refine WL.app2 ?_ | refine WL.app1 ?_ | refine WL.app0 ?_ | skip
    repeat first
      | (apply WL.q; exact rfl; exact rfl; exact rfl; (first | (apply EvW.assign; exact rfl) | (apply EvW.pickF; exact rfl; exact rfl)))
      | refine WL.nil ?_ | refine WE.next ?_ | refine WC.ret ?_
    refine WE.keep (xs := [.blk jb #[str (st).1, .bool (st).2, ptr mb 0, lv, i64 a, i64 nx, .bool false] 41, .blk mb (Value.map (o) :: i64 (m).ar :: i64 (m).ac :: Value.bool (m).off :: ((m).pages.map str ++ (m).worn.map i64)).toArray 61]) (by repeat constructor) ?_
    refine WE.ret1 rfl rfl ?_
    exact ⟨by rw [Bool.false_or], rfl⟩
theorem done14_spec (jb mb : Nat) (o : Option Nat) (m : Mem) (st : St8) (lv : Value) (a nx : Int) (d : Bool) (w : World) (S : BSet) (hS : (sepL [.blk jb #[str (st).1, .bool (st).2, ptr mb 0, lv, i64 a, i64 nx, .bool d] 41, .blk mb (Value.map (o) :: i64 (m).ar :: i64 (m).ac :: Value.bool (m).off :: ((m).pages.map str ++ (m).worn.map i64)).toArray 61]).sat S w)  :
    Tri Try.prog 24 #[ptr jb 0, i64 14] w S fun u A => u = i64 14 ∧ A = [.blk jb #[str (st).1, .bool (st).2, ptr mb 0, lv, i64 a, i64 nx, .bool true] 41, .blk mb (Value.map (o) :: i64 (m).ar :: i64 (m).ac :: Value.bool (m).off :: ((m).pages.map str ++ (m).worn.map i64)).toArray 61] := by
  refine Tri.enter (l := [ptr jb 0, i64 14]) Try.func24 rfl Try.ntmps24 rfl [(0, ptr jb 0), (1, i64 14)] (subA rfl) hS ?_
  cases d with
  | true =>
    repeat first
      | (apply WL.q; exact rfl; exact rfl; exact rfl; (first | (apply EvW.move; exact rfl) | (apply EvW.assign; exact rfl) | (apply EvW.nilPtr; exact rfl) | (apply EvW.fieldAddr0; exact rfl; exact FldC.eq) | (apply EvW.load; exact rfl; exact ScalC.eq; (focus ((repeat constructor); done)); exact rfl) | (apply EvW.pickT; exact rfl; exact rfl)))
      | refine WC.seq ?_ | refine WC.region ?_ | refine WL.nil ?_ | refine WE.next ?_ | refine WC.condT rfl ?_ | refine WC.ret ?_ | refine WE.passRet ?_ | refine WL.unwanted rfl rfl rfl rfl ?_ | (apply WL.store; exact rfl; exact rfl; (first | assumption | exact rfl); exact SzC.eq; (first | assumption | exact rfl); (focus ((repeat constructor); done)))
    refine WE.keep (xs := [.blk jb #[str (st).1, .bool (st).2, ptr mb 0, lv, i64 a, i64 nx, .bool true] 41, .blk mb (Value.map (o) :: i64 (m).ar :: i64 (m).ac :: Value.bool (m).off :: ((m).pages.map str ++ (m).worn.map i64)).toArray 61]) (by repeat constructor) ?_
    refine WE.ret1 rfl rfl ?_
    exact ⟨rfl, rfl⟩
  | false =>
    repeat first
      | (apply WL.q; exact rfl; exact rfl; exact rfl; (first | (apply EvW.move; exact rfl) | (apply EvW.assign; exact rfl) | (apply EvW.nilPtr; exact rfl) | (apply EvW.fieldAddr0; exact rfl; exact FldC.eq) | (apply EvW.load; exact rfl; exact ScalC.eq; (focus ((repeat constructor); done)); exact rfl) | (apply EvW.cmpT; exact rfl; exact rfl; exact rfl; omega) | (apply EvW.pickT; exact rfl; exact rfl) | (apply EvW.pickF; exact rfl; exact rfl)))
      | refine WC.seq ?_ | refine WC.region ?_ | refine WL.nil ?_ | refine WE.next ?_ | refine WC.condT rfl ?_ | refine WC.ret ?_ | refine WE.passRet ?_ | refine WL.wanted rfl rfl rfl ?_ | refine WL.unwanted rfl rfl rfl rfl ?_ | (apply WL.store; exact rfl; exact rfl; (first | assumption | exact rfl); exact SzC.eq; (first | assumption | exact rfl); (focus ((repeat constructor); done)))
    refine WE.keep (xs := [.blk jb #[str (st).1, .bool (st).2, ptr mb 0, lv, i64 a, i64 nx, .bool true] 41, .blk mb (Value.map (o) :: i64 (m).ar :: i64 (m).ac :: Value.bool (m).off :: ((m).pages.map str ++ (m).worn.map i64)).toArray 61]) (by repeat constructor) ?_
    refine WE.ret1 rfl rfl ?_
    exact ⟨rfl, rfl⟩
end Go.Proofs.Ytknclcjmfgdphaa
namespace Go.Proofs.Ytknclcjmfgdphaa
open Go.RowKit Go.BK
/-- A journal that is up, and all that was appended. -/
def JOk (m : Mem) (all : List Rec) (st : St8) (L : List Lf) (a nx : Int) (d : Bool) : Prop :=
  m.off = false ∧ d = false ∧ st = safeOf all ∧ nx = ((all.length + 1 : Nat) : Int) ∧ ∃ (L0 : List Lf) (l : Lf) (at' : Nat), L = L0 ++ [l] ∧ a = (at' : Int) ∧ JInv (pgM m) all L0 l at'
def rightF (r : Rec) : Int := if r.kind ≠ 1 ∧ r.kind ≠ 2 then 27 else if 1000 < r.text.length then 2 else 0
theorem right_ok {r : Rec} (h : rightF r = 0) : RecOk r := by
  unfold rightF at h
  split at h
  · cases h
  · rename_i h1
    split at h
    · cases h
    · exact ⟨by omega, by omega⟩
def AppR (mp : List (Int × Value)) (K : Nat) (all : List Rec) (r : Rec) (m : Mem) (e : Int) (m' : Mem) (mp' : List (Int × Value)) (st' : St8) (L' : List Lf) (a' nx' : Int) (d' : Bool) : Prop :=
  m'.wf K ∧ CutM mp' ∧ (mp = [] → mp' = []) ∧
  ((rightF r ≠ 0 ∧ e = rightF r ∧ m' = m ∧ mp' = mp ∧ JOk m' all st' L' a' nx' d') ∨ (rightF r = 0 ∧ e = 0 ∧ JOk m' (all ++ [r]) st' L' a' nx' d') ∨
    (rightF r = 0 ∧ e = 14 ∧ m'.off = true ∧ d' = true ∧ mp ≠ [] ∧ ((∃ L'', MInv (pgM m') all L'') ∨ ∃ L'', MInv (pgM m') (all ++ [r]) L'')))
theorem safe_snoc (all : List Rec) (r : Rec) : noteF (safeOf all) r = safeOf (all ++ [r]) := by rw [safeOf_append]; rfl
set_option maxHeartbeats 4000000 in
set_option maxRecDepth 4000 in
theorem append_spec (jb mb : Nat) (o : Option Nat) (m : Mem) (K : Nat) (mp : List (Int × Value)) (st : St8) (lv : Value) (L : List Lf) (a nx : Int) (d : Bool) (all : List Rec) (r : Rec) (w : World) (S : BSet) (hS : (sepL [.blk jb #[str (st).1, .bool (st).2, ptr mb 0, lv, i64 a, i64 nx, .bool d] 41, .own 68 3 (lv) (L).length ((L).flatMap lfC), .blk mb (Value.map (o) :: i64 (m).ar :: i64 (m).ac :: Value.bool (m).off :: ((m).pages.map str ++ (m).worn.map i64)).toArray 61, .omap o mp]).sat S w) (hm : m.wf K) (hK : K ≤ 1099511627773) (ho : o = none → mp = []) (hC : CutM mp) (hJ : JOk m all st L a nx d) (hfew : all.length + 2 < 4294967296) (hrl : r.text.length ≤ 140737488355328) :
    Tri Try.prog 13 #[ptr jb 0, i64 r.kind, str r.text] w S fun u A => ∃ (e : Int) (m' : Mem) (mp' : List (Int × Value)) (st' : St8) (lv' : Value) (L' : List Lf) (a' nx' : Int) (d' : Bool), u = i64 e ∧ A = [.blk jb #[str (st').1, .bool (st').2, ptr mb 0, lv', i64 a', i64 nx', .bool d'] 41, .own 68 3 (lv') (L').length ((L').flatMap lfC), .blk mb (Value.map (o) :: i64 (m').ar :: i64 (m').ac :: Value.bool (m').off :: ((m').pages.map str ++ (m').worn.map i64)).toArray 61, .omap o mp'] ∧ AppR mp (K + 3) all r m e m' mp' st' L' a' nx' d' := by
  refine Tri.enter (l := [ptr jb 0, i64 r.kind, str r.text]) Try.func13 rfl Try.ntmps13 rfl [(0, ptr jb 0), (1, i64 r.kind), (2, str r.text)] (subA rfl) hS ?_
  obtain ⟨hoff, hd, hst, hnx, L0, l, at', rfl, rfl, hJI⟩ := id hJ
  by_cases hk : r.kind ≠ 1 ∧ r.kind ≠ 2
  · have hr : rightF r = 27 := by unfold rightF; rw [if_pos hk]
    obtain ⟨hk1, hk2⟩ := hk
    repeat first
      | (apply WL.q; exact rfl; exact rfl; exact rfl; (first | (apply EvW.move; exact rfl) | (apply EvW.assign; exact rfl) | (apply EvW.cmpT; exact rfl; exact rfl; exact rfl; omega) | (apply EvW.pickT; exact rfl; exact rfl)))
      | refine WC.seq ?_ | refine WC.region ?_ | refine WL.nil ?_ | refine WE.next ?_ | refine WC.block ?_ | refine WC.condT rfl ?_ | refine WC.ret ?_ | refine WE.passRet ?_ | refine WE.outRet ?_ | refine WL.wanted rfl rfl rfl ?_
    refine WE.ret1 rfl rfl ?_
    exact ⟨27, _, _, _, _, _, _, _, _, rfl, rfl, wf_up hm (by omega), hC, id, .inl ⟨by rw [hr]; decide, hr.symm, rfl, rfl, hJ⟩⟩
  by_cases hlen : (r.text.length : Int) > 1000
  · have hr : rightF r = 2 := by unfold rightF; rw [if_neg hk, if_pos (by omega)]
    have hk' : r.kind = 1 ∨ r.kind = 2 := by omega
    have hfin : AppR mp (K + 3) all r m 2 m mp st (L0 ++ [l]) at' nx d := ⟨wf_up hm (by omega), hC, id, .inl ⟨by rw [hr]; decide, hr.symm, rfl, rfl, hJ⟩⟩
    rcases hk' with hk' | hk'
    · rw [hk']
      repeat first
        | (apply WL.q; exact rfl; exact rfl; exact rfl; (first | (apply EvW.move; exact rfl) | (apply EvW.assign; exact rfl) | (apply EvW.lenS; exact rfl; exact UndC.eq) | (apply EvW.cmpT; exact rfl; exact rfl; exact rfl; omega) | (apply EvW.cmpF; exact rfl; exact rfl; exact rfl; omega) | (apply EvW.pickF; exact rfl; exact rfl)))
        | refine WC.seq ?_ | refine WC.region ?_ | refine WL.nil ?_ | refine WE.next ?_ | refine WC.block ?_ | refine WC.condT rfl ?_ | refine WC.condF rfl ?_ | refine WC.ret ?_ | refine WE.passRet ?_ | refine WE.outRet ?_ | refine WL.unwanted rfl rfl rfl rfl ?_
      refine WE.ret1 rfl rfl ?_
      exact ⟨2, _, _, _, _, _, _, _, _, rfl, rfl, hfin⟩
    · rw [hk']
      repeat first
        | (apply WL.q; exact rfl; exact rfl; exact rfl; (first | (apply EvW.move; exact rfl) | (apply EvW.assign; exact rfl) | (apply EvW.lenS; exact rfl; exact UndC.eq) | (apply EvW.cmpT; exact rfl; exact rfl; exact rfl; omega) | (apply EvW.cmpF; exact rfl; exact rfl; exact rfl; omega) | (apply EvW.pickT; exact rfl; exact rfl)))
        | refine WC.seq ?_ | refine WC.region ?_ | refine WL.nil ?_ | refine WE.next ?_ | refine WC.block ?_ | refine WC.condT rfl ?_ | refine WC.condF rfl ?_ | refine WC.ret ?_ | refine WE.passRet ?_ | refine WE.outRet ?_ | refine WL.wanted rfl rfl rfl ?_
      refine WE.ret1 rfl rfl ?_
      exact ⟨2, _, _, _, _, _, _, _, _, rfl, rfl, hfin⟩
  have hr : rightF r = 0 := by unfold rightF; rw [if_neg hk, if_neg (by omega)]
  have hrok := right_ok hr
  have hdn : (d || m.off) = false := by rw [hd, hoff]; rfl
  have hjl := jf_len r.kind ((all.length + 1 : Nat) : Int) r.text
  have hk0 : 0 ≤ r.kind := by rcases hrok.1 with h | h <;> omega
  have hk1 : r.kind < 256 := by rcases hrok.1 with h | h <;> omega
  have hal : at' ≤ 4096 := hJI.le
  refine WC.seq ?_
  refine WC.region ?_
  (apply WL.q; exact rfl; exact rfl; exact rfl; (apply EvW.assign; exact rfl))
  refine WL.nil ?_
  refine WE.next ?_
  refine WC.seq ?_
  refine WC.mid (fun _ : Unit => [(0, ptr jb 0), (1, i64 r.kind), (2, str r.text)]) (fun _ => [.blk jb #[str (st).1, .bool (st).2, ptr mb 0, lv, i64 (at' : Int), i64 nx, .bool d] 41, .own 68 3 (lv) (L0 ++ [l]).length ((L0 ++ [l]).flatMap lfC), .blk mb (Value.map (o) :: i64 (m).ar :: i64 (m).ac :: Value.bool (m).off :: ((m).pages.map str ++ (m).worn.map i64)).toArray 61, .omap o mp]) (fun _ => True) ?_ (fun _ _ => ?_)
  · have hk' : r.kind = 1 ∨ r.kind = 2 := hrok.1
    rcases hk' with hk' | hk'
    · have hk1' : ¬ r.kind ≠ 1 := by omega
      repeat first
        | (apply WL.q; exact rfl; exact rfl; exact rfl; (first | (apply EvW.move; exact rfl) | (apply EvW.assign; exact rfl) | (apply EvW.lenS; exact rfl; exact UndC.eq) | (apply EvW.cmpF; exact rfl; exact rfl; exact rfl; omega) | (apply EvW.pickF; exact rfl; exact rfl)))
        | refine WC.seq ?_ | refine WC.region ?_ | refine WL.nil ?_ | refine WE.next ?_ | refine WC.block ?_ | refine WC.condF rfl ?_ | refine WL.unwanted rfl rfl rfl rfl ?_
      try refine WL.wanted rfl rfl rfl ?_
      apply WL.callA ([.blk jb #[str (st).1, .bool (st).2, ptr mb 0, lv, i64 (at' : Int), i64 nx, .bool d] 41, .blk mb (Value.map (o) :: i64 (m).ar :: i64 (m).ac :: Value.bool (m).off :: ((m).pages.map str ++ (m).worn.map i64)).toArray 61])
      · exact rfl
      · exact rfl
      · exact fun w => Try.call23 _ w
      · (focus ((repeat constructor); done))
      · exact fun w1 S1 hS1 hs1 ho1 => jdown_spec jb mb o m st lv at' nx d false w1 S1 hS1 hdn
      rintro _ _ ⟨rfl, rfl⟩
      first | refine WL.app4 ?_ | refine WL.app3 ?_ | refine WL.app2 ?_ | refine WL.app1 ?_ | refine WL.app0 ?_ | skip
      repeat first
        | (apply WL.q; exact rfl; exact rfl; exact rfl; (first | (apply EvW.assign; exact rfl)))
        | refine WL.nil ?_ | refine WE.next ?_ | refine WC.skip ?_ | refine WE.out ?_ | refine WC.condF rfl ?_
      exact WE.mid (()) (trivial) (by (focus ((repeat (first | exact trivial | (refine ⟨rfl, ?_⟩))); done))) (fun _ h => (by (try simp only []); exact h.keep (by repeat constructor)))
    · have hk1' : r.kind ≠ 1 := by omega
      have hk2' : ¬ r.kind ≠ 2 := by omega
      repeat first
        | (apply WL.q; exact rfl; exact rfl; exact rfl; (first | (apply EvW.move; exact rfl) | (apply EvW.assign; exact rfl) | (apply EvW.lenS; exact rfl; exact UndC.eq) | (apply EvW.cmpT; exact rfl; exact rfl; exact rfl; omega) | (apply EvW.cmpF; exact rfl; exact rfl; exact rfl; omega) | (apply EvW.pickT; exact rfl; exact rfl)))
        | refine WC.seq ?_ | refine WC.region ?_ | refine WL.nil ?_ | refine WE.next ?_ | refine WC.block ?_ | refine WC.condF rfl ?_ | refine WL.wanted rfl rfl rfl ?_
      try refine WL.wanted rfl rfl rfl ?_
      apply WL.callA ([.blk jb #[str (st).1, .bool (st).2, ptr mb 0, lv, i64 (at' : Int), i64 nx, .bool d] 41, .blk mb (Value.map (o) :: i64 (m).ar :: i64 (m).ac :: Value.bool (m).off :: ((m).pages.map str ++ (m).worn.map i64)).toArray 61])
      · exact rfl
      · exact rfl
      · exact fun w => Try.call23 _ w
      · (focus ((repeat constructor); done))
      · exact fun w1 S1 hS1 hs1 ho1 => jdown_spec jb mb o m st lv at' nx d false w1 S1 hS1 hdn
      rintro _ _ ⟨rfl, rfl⟩
      first | refine WL.app4 ?_ | refine WL.app3 ?_ | refine WL.app2 ?_ | refine WL.app1 ?_ | refine WL.app0 ?_ | skip
      repeat first
        | (apply WL.q; exact rfl; exact rfl; exact rfl; (first | (apply EvW.assign; exact rfl)))
        | refine WL.nil ?_ | refine WE.next ?_ | refine WC.skip ?_ | refine WE.out ?_ | refine WC.condF rfl ?_
      exact WE.mid (()) (trivial) (by (focus ((repeat (first | exact trivial | (refine ⟨rfl, ?_⟩))); done))) (fun _ h => (by (try simp only []); exact h.keep (by repeat constructor)))
  repeat first
    | (apply WL.q; exact rfl; exact rfl; exact rfl; (first | (apply EvW.move; exact rfl) | (apply EvW.nilPtr; exact rfl) | (apply EvW.fieldAddr0; exact rfl; exact FldC.eq) | (apply EvW.load; exact rfl; exact ScalC.eq; (focus ((repeat constructor); done)); exact rfl)))
    | refine WC.seq ?_ | refine WC.region ?_
  try refine WL.wanted rfl rfl rfl ?_
  apply WL.callA ([])
  · exact rfl
  · exact rfl
  · exact fun w => Try.call25 _ w
  · (focus ((repeat constructor); done))
  · exact fun w1 S1 hS1 hs1 ho1 => frame_spec r.kind nx r.text w1 S1 hS1 hk0 hk1 (by omega) (by omega) hrok.2
  rintro _ _ ⟨rfl, rfl⟩
  first | refine WL.app4 ?_ | refine WL.app3 ?_ | refine WL.app2 ?_ | refine WL.app1 ?_ | refine WL.app0 ?_ | skip
  rw [hnx]
  repeat first
    | (apply WL.q; exact rfl; exact rfl; exact rfl; (first | (apply EvW.move; exact rfl) | (apply EvW.assign; exact rfl) | (apply EvW.nilPtr; exact rfl) | (apply EvW.fieldAddr0; exact rfl; exact FldC.eq) | (apply EvW.load; exact rfl; exact ScalC.eq; (focus ((repeat constructor); done)); exact rfl) | (apply EvW.lenS; exact rfl; exact UndC.eq) | (apply EvW.cmp; exact rfl; exact rfl; exact rfl) | (apply EvW.arN; exact rfl; exact rfl; exact rfl; refine i64_in ?_ ?_ <;> omega)))
    | refine WC.seq ?_ | refine WC.region ?_ | refine WL.nil ?_ | refine WE.next ?_
  refine WC.mid (fun _ : Mem × List (Int × Value) × Value × List Lf × Lf × Nat => [(0, ptr jb 0), (1, i64 r.kind), (2, str r.text), (7, str (jf r.kind ((all.length + 1 : Nat) : Int) r.text))]) (fun s => [.blk jb #[str (st).1, .bool (st).2, ptr mb 0, s.2.2.1, i64 (s.2.2.2.2.2 : Int), i64 ((all.length + 1 : Nat) : Int), .bool d] 41, .own 68 3 (s.2.2.1) (s.2.2.2.1 ++ [s.2.2.2.2.1]).length ((s.2.2.2.1 ++ [s.2.2.2.2.1]).flatMap lfC), .blk mb (Value.map (o) :: i64 (s.1).ar :: i64 (s.1).ac :: Value.bool (s.1).off :: ((s.1).pages.map str ++ (s.1).worn.map i64)).toArray 61, .omap o s.2.1]) (fun s => s.1.wf (K + 2) ∧ s.1.off = false ∧ CutM s.2.1 ∧ (mp = [] → s.2.1 = []) ∧ (o = none → s.2.1 = []) ∧ JInv (pgM s.1) all s.2.2.2.1 s.2.2.2.2.1 s.2.2.2.2.2 ∧ s.2.2.2.2.2 + (r.text.length + 12) ≤ 4096) ?_ (fun s hs => ?_)
  · refine WC.condP rfl (fun hroom => ?_) (fun hroom => ?_)
    · repeat first
        | (apply WL.q; exact rfl; exact rfl; exact rfl; (first | (apply EvW.move; exact rfl)))
        | refine WC.seq ?_ | refine WC.region ?_
      try refine WL.wanted rfl rfl rfl ?_
      apply WL.callA ([.blk jb #[str (st).1, .bool (st).2, ptr mb 0, lv, i64 (at' : Int), i64 ((all.length + 1 : Nat) : Int), .bool d] 41, .own 68 3 (lv) (L0 ++ [l]).length ((L0 ++ [l]).flatMap lfC), .blk mb (Value.map (o) :: i64 (m).ar :: i64 (m).ac :: Value.bool (m).off :: ((m).pages.map str ++ (m).worn.map i64)).toArray 61, .omap o mp])
      · exact rfl
      · exact rfl
      · exact fun w => Try.call22 _ w
      · (focus ((repeat constructor); done))
      · exact fun w1 S1 hS1 hs1 ho1 => turn_spec jb mb o m K mp st lv (L0 ++ [l]) at' ((all.length + 1 : Nat) : Int) d all w1 S1 hS1 hm (by omega) hoff ho hC hJI.mem hst rfl
      rintro _ _ ⟨e, m1, mp1, lv1, L1, a1, rfl, rfl, hT⟩
      first | refine WL.app4 ?_ | refine WL.app3 ?_ | refine WL.app2 ?_ | refine WL.app1 ?_ | refine WL.app0 ?_ | skip
      obtain ⟨hw1, hC1, hmp1, hres⟩ := hT
      rcases hres with ⟨rfl, hoff1, L01, l1, at1, rfl, rfl, hJ1, hat1, hf1, hn1⟩ | ⟨rfl, hoff1, hmpne, hI1⟩
      · have hfit := hrok.2
        repeat first
          | (apply WL.q; exact rfl; exact rfl; exact rfl; (first | (apply EvW.move; exact rfl) | (apply EvW.assign; exact rfl) | (apply EvW.cmpF; exact rfl; exact rfl; exact rfl; omega)))
          | refine WC.seq ?_ | refine WC.region ?_ | refine WL.nil ?_ | refine WE.next ?_ | refine WC.skip ?_ | refine WC.condF rfl ?_
        exact WE.mid ((m1, mp1, lv1, L01, l1, at1)) (⟨hw1, hoff1, hC1, hmp1, fun h => hmp1 (ho h), hJ1, by simp only []; omega⟩) (by (focus ((repeat (first | exact trivial | (refine ⟨rfl, ?_⟩))); done))) (fun _ h => (by (try simp only []); exact h.keep (by repeat constructor)))
      · repeat first
          | (apply WL.q; exact rfl; exact rfl; exact rfl; (first | (apply EvW.move; exact rfl) | (apply EvW.assign; exact rfl) | (apply EvW.cmpT; exact rfl; exact rfl; exact rfl; omega)))
          | refine WC.seq ?_ | refine WC.region ?_ | refine WL.nil ?_ | refine WE.next ?_ | refine WC.condT rfl ?_
        try refine WL.wanted rfl rfl rfl ?_
        apply WL.callA ([.blk jb #[str (st).1, .bool (st).2, ptr mb 0, lv1, i64 a1, i64 ((all.length + 1 : Nat) : Int), .bool d] 41, .blk mb (Value.map (o) :: i64 (m1).ar :: i64 (m1).ac :: Value.bool (m1).off :: ((m1).pages.map str ++ (m1).worn.map i64)).toArray 61])
        · exact rfl
        · exact rfl
        · exact fun w => Try.call24 _ w
        · (focus ((repeat constructor); done))
        · exact fun w1 S1 hS1 hs1 ho1 => done14_spec jb mb o m1 st lv1 a1 ((all.length + 1 : Nat) : Int) d w1 S1 hS1
        rintro _ _ ⟨rfl, rfl⟩
        first | refine WL.app4 ?_ | refine WL.app3 ?_ | refine WL.app2 ?_ | refine WL.app1 ?_ | refine WL.app0 ?_ | skip
        repeat first
          | (apply WL.q; exact rfl; exact rfl; exact rfl; (first | (apply EvW.assign; exact rfl)))
          | refine WL.nil ?_ | refine WE.next ?_ | refine WC.ret ?_ | refine WE.passRet ?_
        refine WE.keep (xs := [.blk jb #[str (st).1, .bool (st).2, ptr mb 0, lv1, i64 a1, i64 ((all.length + 1 : Nat) : Int), .bool true] 41, .own 68 3 (lv1) (L1).length ((L1).flatMap lfC), .blk mb (Value.map (o) :: i64 (m1).ar :: i64 (m1).ac :: Value.bool (m1).off :: ((m1).pages.map str ++ (m1).worn.map i64)).toArray 61, .omap o mp1]) (by repeat constructor) ?_
        refine WE.ret1 rfl rfl ?_
        exact ⟨14, m1, mp1, st, lv1, L1, a1, _, true, rfl, rfl, wf_up hw1 (by omega), hC1, hmp1, .inr (.inr ⟨hr, rfl, hoff1, rfl, hmpne, .inl hI1⟩)⟩
    · repeat first
        | refine WC.skip ?_
      exact WE.mid ((m, mp, lv, L0, l, at')) (⟨wf_up hm (by omega), hoff, hC, id, ho, hJI, by simp only []; omega⟩) (by (focus ((repeat (first | exact trivial | (refine ⟨rfl, ?_⟩))); done))) (fun _ h => (by (try simp only []); exact h.keep (by repeat constructor)))
  obtain ⟨m1, mp1, lv1, L1, l1, at1⟩ := s
  dsimp only at hs ⊢
  obtain ⟨hm1, hoff1, hC1, hmp1, ho1', hJ1, hfit⟩ := hs
  have hgl : (L1 ++ [l1]).getD L1.length default = l1 := getD_mid L1 l1 [] _
  have hL24 := few_pages hJ1.mem.nodup hJ1.mem.lt
  have hll : (L1 ++ [l1]).length = L1.length + 1 := by rw [List.length_append, List.length_singleton]
  have hbad : m1.bad (l1.page : Int) at1 (jf r.kind ((all.length + 1 : Nat) : Int) r.text) = 0 := bad_ok (place_free hoff1 (hJ1.mem.lt l1 (by simp)) (by omega) (by have := hJ1.le; omega)) (by omega) (by
    have hpg := hJ1.page
    have hpc := hJ1.place
    have hle := hJ1.le
    rw [page_pg, hpg, hjl, show ((at1 : Nat) : Int).toNat = at1 from rfl, show ((at1 : Int) + ((r.text.length + 12 : Nat) : Int)).toNat = at1 + (r.text.length + 12) by omega, List.drop_take, List.drop_left' hpc.symm]
    unfold bareB
    rw [List.take_replicate]
    congr 1; omega)
  obtain ⟨ct, hct, hct0⟩ := hC1.cut m1.ar
  have hwf := burn_wf (ct := ct) hm1 hbad
  have hout := rec_out hm1 hJ1 r hrok hfit hfew ct
  have hoff2 := off_act (m1.burnt l1.page at1 (jf r.kind ((all.length + 1 : Nat) : Int) r.text) (m7cutF ct (jf r.kind ((all.length + 1 : Nat) : Int) r.text).length).1) ct hoff1
  generalize jf r.kind ((all.length + 1 : Nat) : Int) r.text = H at hbad hwf hout hoff2 hjl
  repeat first
    | refine WC.seq ?_
  refine WC.keep (xs := [.own 68 3 (lv1) (L1 ++ [l1]).length ((L1 ++ [l1]).flatMap lfC), .blk jb #[str (st).1, .bool (st).2, ptr mb 0, lv1, i64 (at1 : Int), i64 ((all.length + 1 : Nat) : Int), .bool d] 41, .blk mb (Value.map (o) :: i64 (m1).ar :: i64 (m1).ac :: Value.bool (m1).off :: ((m1).pages.map str ++ (m1).worn.map i64)).toArray 61, .omap o mp1]) (by repeat constructor) ?_
  repeat refine WC.seq ?_
  apply WC.drawE ([[.own 68 3 (lv1) (L1 ++ [l1]).length ((L1 ++ [l1]).flatMap lfC), .blk jb #[str (st).1, .bool (st).2, ptr mb 0, lv1, i64 (at1 : Int), i64 ((all.length + 1 : Nat) : Int), .bool d] 41, .blk mb (Value.map (o) :: i64 (m1).ar :: i64 (m1).ac :: Value.bool (m1).off :: ((m1).pages.map str ++ (m1).worn.map i64)).toArray 61, .omap o mp1]]) ([]) Try.mixed
  · (focus ((repeat (first | exact Restr.nil | (apply Restr.keep; exact rfl; exact rfl) | (apply Restr.drop; exact rfl))); done))
  · exact rfl
  · exact rfl
  · decide +kernel
  · decide +kernel
  · decide +kernel
  · decide +kernel
  · repeat first
        | exact Draws.nil
        | (apply Draws.skip; exact rfl; exact rfl)
        | (apply Draws.at 0; exact rfl; decide +kernel
           (first | (apply EvW.move; exact rfl) | (apply EvW.assign; exact rfl) | (apply EvW.nilPtr; exact rfl) | (apply EvW.fieldAddr0; exact rfl; exact FldC.eq) | (apply EvW.load; exact rfl; exact ScalC.eq; (focus ((repeat constructor); done)); exact rfl) | (apply EvW.arN; exact rfl; exact rfl; exact rfl; refine i64_in ?_ ?_ <;> omega) | (apply EvW.lenOwn; exact rfl; exact UndC.eq; (focus ((repeat constructor); done))) | (apply EvW.idxOwn; exact rfl; exact rfl; exact UndC.eq; exact SzC.eq; (focus ((repeat constructor); done)); omega; omega)))
        | (apply Draws.at 1; exact rfl; decide +kernel
           fail)
        | (apply Draws.two 0; exact rfl; decide +kernel
           fail
           fail)
        | (apply Draws.at 2; exact rfl; decide +kernel
           fail)
        | (apply Draws.two 1; exact rfl; decide +kernel
           fail
           fail)
  apply WE.writ
  · (focus ((repeat (first | exact Writ.nil | apply Writ.some | apply Writ.none)); done))
  rw [show (((L1 ++ [l1]).length : Int) - 1).toNat = L1.length by omega]
  repeat first
    | refine WC.seq ?_ | refine WE.next ?_
  repeat refine WC.seq ?_
  refine WC.keep (xs := [.blk jb #[str (st).1, .bool (st).2, ptr mb 0, lv1, i64 (at1 : Int), i64 ((all.length + 1 : Nat) : Int), .bool d] 41, .own 68 3 (lv1) (L1 ++ [l1]).length ((L1 ++ [l1]).flatMap lfC), .blk mb (Value.map (o) :: i64 (m1).ar :: i64 (m1).ac :: Value.bool (m1).off :: ((m1).pages.map str ++ (m1).worn.map i64)).toArray 61, .omap o mp1]) (by repeat constructor) ?_
  apply WC.par _ (fun c : Ch => [.blk jb #[str (st).1, .bool (st).2, ptr mb 0, lv1, i64 (at1 : Int), i64 ((all.length + 1 : Nat) : Int), .bool d] 41, .own 68 3 (lv1) (L1 ++ [l1]).length ((L1 ++ [l1]).flatMap lfC), .blk mb (Value.map (o) :: i64 (m1).ar :: i64 (m1).ac :: Value.bool (m1).off :: ((m1).pages.map str ++ (m1).worn.map i64)).toArray 61, .blk mb (Value.map (o) :: i64 ((m1.burnt l1.page at1 H (m7cutF ct H.length).1).act ct).ar :: i64 ((m1.burnt l1.page at1 H (m7cutF ct H.length).1).act ct).ac :: Value.bool ((m1.burnt l1.page at1 H (m7cutF ct H.length).1).act ct).off :: (((m1.burnt l1.page at1 H (m7cutF ct H.length).1).act ct).pages.map str ++ ((m1.burnt l1.page at1 H (m7cutF ct H.length).1).act ct).worn.map i64)).toArray 61, .omap o mp1, .omap o (mdel m1.ar mp1), .blk (c 13).1 #[str H] 9]) [none, none, none, some 14, none, some 14, some 13] [none, none, some 14, none, some 14, none, none] [(13, fun x => .slice (some ⟨x.1, 0, none⟩) 1 1)] Try.mixed
  · (focus ((repeat (first | exact Restr.nil | (apply Restr.keep; exact rfl; exact rfl) | (apply Restr.drop; exact rfl))); done))
  · intro c; exact (by repeat constructor)
  · exact rfl
  · decide +kernel
  · decide +kernel
  · intro c
    (apply Par.quiet _ [true, true, true, false, true, false, false]; exact rfl; decide +kernel; exact rfl; intro R; refine ⟨_, (by repeat constructor), ?_⟩;
         (first | (apply EvW.move; exact rfl)))
    (apply Par.quiet _ [true, true, true, false, true, false, false]; exact rfl; decide +kernel; exact rfl; intro R; refine ⟨_, (by repeat constructor), ?_⟩;
         (first | (apply EvW.nilPtr; exact rfl)))
    (apply Par.quiet _ [true, true, true, false, true, false, false]; exact rfl; decide +kernel; exact rfl; intro R; refine ⟨_, (by repeat constructor), ?_⟩;
         (first | (apply EvW.fieldAddr0; exact rfl; exact FldC.eq)))
    (apply Par.quiet _ [true, true, true, false, true, false, false]; exact rfl; decide +kernel; exact rfl; intro R; refine ⟨_, (by repeat constructor), ?_⟩;
         (first | (apply EvW.load; exact rfl; exact ScalC.eq; (focus ((repeat constructor); done)); exact rfl)))
    (apply Par.quiet _ [true, true, true, false, true, false, false]; exact rfl; decide +kernel; exact rfl; intro R; refine ⟨_, (by repeat constructor), ?_⟩;
         (first | (apply EvW.move; exact rfl)))
    (apply Par.quiet _ [true, true, true, false, true, false, false]; exact rfl; decide +kernel; exact rfl; intro R; refine ⟨_, (by repeat constructor), ?_⟩;
         (first | (apply EvW.nilElemOwn; exact rfl; (focus ((repeat constructor); done)); omega)))
    (apply Par.quiet _ [true, true, true, false, true, false, false]; exact rfl; decide +kernel; exact rfl; intro R; refine ⟨_, (by repeat constructor), ?_⟩;
         (first | (apply EvW.fldOwn; exact rfl; exact FldC.eq; (focus ((repeat constructor); done)); omega)))
    apply Par.quiet _ [true, true, true, false, true, false, false]
    · exact rfl
    · decide +kernel
    · exact rfl
    · intro R
      refine ⟨_, (by repeat constructor), ?_⟩
      (apply EvW.ldFldOwn (xs := L1 ++ [l1]) (f := lfC) (q := i64 l1.page); exact rfl; exact ScalC.eq; (focus ((repeat constructor); done)); exact lfC_len; (rw [hll]; omega); (rw [hgl]; rfl))
    (apply Par.quiet _ [true, true, true, false, true, false, false]; exact rfl; decide +kernel; exact rfl; intro R; refine ⟨_, (by repeat constructor), ?_⟩;
         (first | (apply EvW.move; exact rfl)))
    (apply Par.quiet _ [true, true, true, false, true, false, false]; exact rfl; decide +kernel; exact rfl; intro R; refine ⟨_, (by repeat constructor), ?_⟩;
         (first | (apply EvW.nilPtr; exact rfl)))
    (apply Par.quiet _ [true, true, true, false, true, false, false]; exact rfl; decide +kernel; exact rfl; intro R; refine ⟨_, (by repeat constructor), ?_⟩;
         (first | (apply EvW.fieldAddr0; exact rfl; exact FldC.eq)))
    (apply Par.quiet _ [true, true, true, false, true, false, false]; exact rfl; decide +kernel; exact rfl; intro R; refine ⟨_, (by repeat constructor), ?_⟩;
         (first | (apply EvW.load; exact rfl; exact ScalC.eq; (focus ((repeat constructor); done)); exact rfl)))
    (apply Par.quiet _ [true, true, true, false, true, false, false]; exact rfl; decide +kernel; exact rfl; intro R; refine ⟨_, (by repeat constructor), ?_⟩;
         (first | (apply EvW.move; exact rfl)))
    (apply Par.new _ [false, false, false, false, false, false, false] [false, false, false, false, false, false, true] [true, true, true, false, true, false, false]; exact rfl; exact rfl; decide +kernel; intro R; refine ⟨_, _, _, (by repeat constructor), (by repeat constructor), (fun x => (by repeat constructor)), ?_⟩; (apply NewW.buildSlice; exact UndC.eq; exact SzC.eq; exact ZvC.eq; exact rfl; exact rfl; exact rfl; (focus ((repeat (first | exact Flat.nil | (apply Flat.one; (first | exact rfl | assumption)) | (apply Flat.cons; exact rfl; exact rfl))); done)); exact rfl; exact rfl; exact fun _ => rfl))
    apply Par.eff _ [false, false, true, false, true, false, false] [false, false, false, true, false, true, false] [true, true, false, false, false, false, true]
    · exact rfl
    · exact rfl
    · decide +kernel
    · intro R
      refine ⟨_, _, _, (by repeat constructor), (by repeat constructor), (by repeat constructor), ?_⟩
      apply EffW.callA ([.blk mb (Value.map (o) :: i64 (m1).ar :: i64 (m1).ac :: Value.bool (m1).off :: ((m1).pages.map str ++ (m1).worn.map i64)).toArray 61, .omap o mp1])
      · exact rfl
      · exact fun w => Try.call26 _ w
      · (focus ((repeat constructor); done))
      · exact fun w1 S1 hS1 hs1 ho1 => burn_spec mb o m1 (K + 2) mp1 l1.page at1 _ [H] H ct w1 S1 hS1 ((ho1 (.blk _ #[str H] 9) _ (by repeat constructor)).blkRow rfl (fun k u h => by simpa using h) (by simp)) (by simp) (by simp) hbad hm1 (by omega) ho1' hct
      · exact fun _ _ h => h
      · exact fun _ h => TakeT.st (by (focus ((repeat (first | exact TakeT.tail | apply TakeT.cons | exact Take.head | apply Take.tail | apply TakeT.drop)); done))) h
    (apply Par.quiet _ [true, true, false, true, false, true, true]; exact rfl; decide +kernel; exact rfl; intro R; refine ⟨_, (by repeat constructor), ?_⟩;
         (first | (apply EvW.assign; exact rfl)))
    exact Par.nil
  · repeat (first | exact AllN.nil | (apply AllN.cons; (intro c x; (repeat (first | exact IndA.nil | (apply IndA.skip; decide +kernel) | apply IndA.same))))) 
  · repeat (first | exact AllN.nil | (apply AllN.cons; (intro c x; (repeat (first | exact IndT.nil | (apply IndT.skip; decide +kernel) | apply IndT.same))))) 
  · exact fun _ => rfl
  intro c
  refine ⟨_, (by repeat constructor), ?_⟩
  apply WE.writ
  · (focus ((repeat (first | exact Writ.nil | apply Writ.some | apply Writ.none)); done))
  generalize (c 13).1 = b13
  rcases hout with ⟨hcn, he, hI2⟩ | ⟨hcn, he, hI2⟩
  rotate_left
  · rw [he]
    have hsome : ct.isSome = true := Option.isSome_iff_ne_none.2 hcn
    repeat first
      | (apply WL.q; exact rfl; exact rfl; exact rfl; (first | (apply EvW.move; exact rfl) | (apply EvW.cmpT; exact rfl; exact rfl; exact rfl; omega)))
      | refine WC.seq ?_ | refine WC.region ?_ | refine WL.nil ?_ | refine WE.next ?_ | refine WC.condT rfl ?_
    try refine WL.wanted rfl rfl rfl ?_
    apply WL.callA ([.blk jb #[str (st).1, .bool (st).2, ptr mb 0, lv1, i64 (at1 : Int), i64 ((all.length + 1 : Nat) : Int), .bool d] 41, .blk mb (Value.map (o) :: i64 ((m1.burnt l1.page at1 H (m7cutF ct H.length).1).act ct).ar :: i64 ((m1.burnt l1.page at1 H (m7cutF ct H.length).1).act ct).ac :: Value.bool ((m1.burnt l1.page at1 H (m7cutF ct H.length).1).act ct).off :: (((m1.burnt l1.page at1 H (m7cutF ct H.length).1).act ct).pages.map str ++ ((m1.burnt l1.page at1 H (m7cutF ct H.length).1).act ct).worn.map i64)).toArray 61])
    · exact rfl
    · exact rfl
    · exact fun w => Try.call24 _ w
    · (focus ((repeat constructor); done))
    · exact fun w1 S1 hS1 hs1 ho1 => done14_spec jb mb o _ st lv1 at1 ((all.length + 1 : Nat) : Int) d w1 S1 hS1
    rintro _ _ ⟨rfl, rfl⟩
    first | refine WL.app4 ?_ | refine WL.app3 ?_ | refine WL.app2 ?_ | refine WL.app1 ?_ | refine WL.app0 ?_ | skip
    repeat first
      | (apply WL.q; exact rfl; exact rfl; exact rfl; (first | (apply EvW.assign; exact rfl)))
      | refine WL.nil ?_ | refine WE.next ?_ | refine WC.ret ?_ | refine WE.passRet ?_
    refine WE.keep (xs := [.blk jb #[str (st).1, .bool (st).2, ptr mb 0, lv1, i64 (at1 : Int), i64 ((all.length + 1 : Nat) : Int), .bool true] 41, .own 68 3 (lv1) (L1 ++ [l1]).length ((L1 ++ [l1]).flatMap lfC), .blk mb (Value.map (o) :: i64 ((m1.burnt l1.page at1 H (m7cutF ct H.length).1).act ct).ar :: i64 ((m1.burnt l1.page at1 H (m7cutF ct H.length).1).act ct).ac :: Value.bool ((m1.burnt l1.page at1 H (m7cutF ct H.length).1).act ct).off :: (((m1.burnt l1.page at1 H (m7cutF ct H.length).1).act ct).pages.map str ++ ((m1.burnt l1.page at1 H (m7cutF ct H.length).1).act ct).worn.map i64)).toArray 61, .omap o (mdel m1.ar mp1)]) (by repeat constructor) ?_
    refine WE.ret1 rfl rfl ?_
    exact ⟨14, _, _, st, lv1, _, _, _, true, rfl, rfl, hwf, hC1.del _, fun h => del_nil (hmp1 h), .inr (.inr ⟨hr, rfl, by rw [hoff2]; exact hsome, rfl, fun h => hcn (hct0 (hmp1 h)), hI2⟩)⟩
  rw [he]
  have hoff3 : ((m1.burnt l1.page at1 H (m7cutF ct H.length).1).act ct).off = false := by rw [hoff2, hcn]; rfl
  generalize (m1.burnt l1.page at1 H (m7cutF ct H.length).1).act ct = m2 at hwf hI2 hoff3
  have hgn : ((L1 ++ [l1]).getD L1.length default).n = l1.n := by rw [hgl]
  obtain ⟨hf1, hend⟩ := hJ1.end'
  have hln : l1.n < 4294967296 := by omega
  have hset : HP.own 68 3 lv1 (L1 ++ [l1]).length (over ((L1 ++ [l1]).flatMap lfC) (L1.length * 3 + (0 + 2)) [i64 ((l1.n : Int) + 1)]) = .own 68 3 (lv1) (L1 ++ [(⟨l1.page, l1.first, l1.n + 1⟩ : Lf)]).length ((L1 ++ [(⟨l1.page, l1.first, l1.n + 1⟩ : Lf)]).flatMap lfC) := by
    rw [over_flat (z := default) (y := (⟨l1.page, l1.first, l1.n + 1⟩ : Lf)) lfC_len _ L1.length (by omega) (by rw [hgl]; rfl) (by show 0 + 2 + 1 ≤ 3; decide)]
    rw [set_mid, List.length_append, List.length_append]
    rfl
  repeat first
    | (apply WL.q; exact rfl; exact rfl; exact rfl; (first | (apply EvW.move; exact rfl) | (apply EvW.nilPtr; exact rfl) | (apply EvW.fieldAddr0; exact rfl; exact FldC.eq) | (apply EvW.load; exact rfl; exact ScalC.eq; (focus ((repeat constructor); done)); exact rfl) | (apply EvW.lenS; exact rfl; exact UndC.eq) | (apply EvW.cmpF; exact rfl; exact rfl; exact rfl; omega) | (apply EvW.arN; exact rfl; exact rfl; exact rfl; refine i64_in ?_ ?_ <;> omega) | (apply EvW.fldOwn; exact rfl; exact FldC.eq; (focus ((repeat constructor); done)); omega) | (apply EvW.nilElemOwn; exact rfl; (focus ((repeat constructor); done)); omega) | (apply EvW.ldFldOwn; exact rfl; exact ScalC.eq; (focus ((repeat constructor); done)); exact fun _ => rfl; omega; exact rfl; exact inferInstance)))
    | refine WC.seq ?_ | refine WC.region ?_ | refine WL.nil ?_ | refine WE.next ?_ | refine WC.skip ?_ | refine WC.condF rfl ?_ | (apply WL.store; exact rfl; exact rfl; (first | assumption | exact rfl); exact SzC.eq; (first | assumption | exact rfl); (focus ((repeat constructor); done)))
  rw [hgl, show (at1 : Int) + H.length = ((at1 + (r.text.length + 12) : Nat) : Int) by omega]
  (apply WL.stOwn (ys := [i64 ((l1.n : Int) + 1)]); exact rfl; exact rfl; exact rfl; exact SzC.eq; exact rfl; exact rfl; (focus ((repeat constructor); done)); (rw [flat_lf, List.length_singleton]; omega); (rw [hset]; exact Take.head))
  repeat first
    | (apply WL.q; exact rfl; exact rfl; exact rfl; (first | (apply EvW.move; exact rfl) | (apply EvW.nilPtr; exact rfl) | (apply EvW.fieldAddr0; exact rfl; exact FldC.eq) | (apply EvW.load; exact rfl; exact ScalC.eq; (focus ((repeat constructor); done)); exact rfl) | (apply EvW.arN; exact rfl; exact rfl; exact rfl; refine i64_in ?_ ?_ <;> omega)))
    | refine WC.seq ?_ | refine WC.region ?_ | refine WL.nil ?_ | refine WE.next ?_ | (apply WL.store; exact rfl; exact rfl; (first | assumption | exact rfl); exact SzC.eq; (first | assumption | exact rfl); (focus ((repeat constructor); done)))
  try refine WL.wanted rfl rfl rfl ?_
  apply WL.callA ([.blk jb #[str (st).1, .bool (st).2, ptr mb 0, lv1, i64 ((at1 + (r.text.length + 12) : Nat) : Int), i64 (((all.length + 1 : Nat) : Int) + 1), .bool d] 41])
  · exact rfl
  · exact rfl
  · exact fun w => Try.call21 _ w
  · (focus ((repeat constructor); done))
  · exact fun w1 S1 hS1 hs1 ho1 => jnote_spec jb mb st lv1 _ _ d r w1 S1 hS1
  rintro _ _ ⟨rfl, rfl⟩
  first | refine WL.app4 ?_ | refine WL.app3 ?_ | refine WL.app2 ?_ | refine WL.app1 ?_ | refine WL.app0 ?_ | skip
  repeat first
    | (apply WL.q; exact rfl; exact rfl; exact rfl; (first | (apply EvW.assign; exact rfl)))
    | refine WC.seq ?_ | refine WC.region ?_ | refine WL.nil ?_ | refine WE.next ?_ | refine WC.ret ?_
  refine WE.keep (xs := [.blk jb #[str (noteF st r).1, .bool (noteF st r).2, ptr mb 0, lv1, i64 ((at1 + (r.text.length + 12) : Nat) : Int), i64 (((all.length + 1 : Nat) : Int) + 1), .bool d] 41, .own 68 3 (lv1) (L1 ++ [(⟨l1.page, l1.first, l1.n + 1⟩ : Lf)]).length ((L1 ++ [(⟨l1.page, l1.first, l1.n + 1⟩ : Lf)]).flatMap lfC), .blk mb (Value.map (o) :: i64 (m2).ar :: i64 (m2).ac :: Value.bool (m2).off :: ((m2).pages.map str ++ (m2).worn.map i64)).toArray 61, .omap o (mdel m1.ar mp1)]) (by repeat constructor) ?_
  refine WE.ret1 rfl rfl ?_
  exact ⟨0, m2, _, noteF st r, lv1, _, _, _, d, rfl, rfl, hwf, hC1.del _, fun h => del_nil (hmp1 h), .inr (.inl ⟨hr, rfl, hoff3, hd, by rw [hst]; exact safe_snoc all r, by rw [List.length_append, List.length_singleton]; rfl, L1, _, _, rfl, rfl, hI2⟩)⟩
end Go.Proofs.Ytknclcjmfgdphaa
namespace Go.Proofs.Ytknclcjmfgdphaa
open Go.RowKit Go.BK
theorem numd_get : ∀ (rs : List Rec) (f k : Nat), k < rs.length → (numd f rs).getD k default = ⟨f + k, (rs.getD k default).kind, (rs.getD k default).text⟩
  | r :: rs, f, 0, _ => rfl
  | r :: rs, f, k + 1, h => by
    show (numd (f + 1) rs).getD k default = _
    rw [numd_get rs (f + 1) k (Nat.lt_of_succ_lt_succ h), show f + 1 + k = f + (k + 1) by omega]
    rfl
theorem seg_take (all : List Rec) (f n : Nat) (h : f - 1 + n ≤ all.length) : all.take (f - 1 + n) = all.take (f - 1) ++ seg all f n := by
  unfold seg; rw [List.take_add]
/-- How far the pages have been put together. -/
structure OpInv (all : List Rec) (Lz : List Lf) (b i : Nat) (st : St8) (La : List Lf) (nx : Nat) (rs : List RecN) : Prop where
  le : i ≤ Lz.length
  zero : i = 0 → st = ([], false) ∧ La = [] ∧ nx = 1 ∧ rs = []
  pos : 0 < i → La = Lz.take i ∧ b ≤ nx ∧ nx ≤ all.length + 1 ∧ st = safeOf (all.take (nx - 1)) ∧ rs = numd b ((all.drop (b - 1)).take (nx - b))
  chain : Chain (if i = 0 then b else nx) (Lz.drop i) (all.length + 1)
section
variable {all : List Rec} {Lz : List Lf} {b i nx : Nat} {st : St8} {La : List Lf} {rs : List RecN} {l : Lf}
theorem OpInv.at' (h : OpInv all Lz b i st La nx rs) (hi : i < Lz.length) (hl : Lz.getD i default = l) : l.first = (if i = 0 then b else nx) ∧ Chain (l.first + l.n) (Lz.drop (i + 1)) (all.length + 1) := by
  have hc := h.chain
  rw [cut_at Lz i hi, hl] at hc
  exact ⟨hc.1, by rw [hc.1]; exact hc.2⟩
/-- The next page goes on, or is the first. -/
theorem OpInv.step (h : OpInv all Lz b i st La nx rs) (hb : 1 ≤ b) (hi : i < Lz.length) (hl : Lz.getD i default = l) (hle : l.first - 1 + l.n ≤ all.length) :
    OpInv all Lz b (i + 1) ((seg all l.first l.n).foldl noteF (safeOf (all.take (l.first - 1)))) (La ++ [l]) (l.first + l.n) (rs ++ numd l.first (seg all l.first l.n)) := by
  obtain ⟨hf, hc⟩ := h.at' hi hl
  have htk := take_at' Lz i hi
  rw [hl] at htk
  have hbf : b ≤ l.first := by
    by_cases h0 : i = 0
    · rw [hf, if_pos h0]; exact Nat.le_refl _
    · rw [hf, if_neg h0]; exact (h.pos (by omega)).2.1
  refine ⟨hi, fun h0 => by omega, fun _ => ⟨?_, by omega, by omega, ?_, ?_⟩, by rw [if_neg (by omega)]; exact hc⟩
  · by_cases h0 : i = 0
    · rw [(h.zero h0).2.1, htk, h0, List.take_zero]
    · rw [(h.pos (by omega)).1, htk]
  · rw [show l.first + l.n - 1 = l.first - 1 + l.n by omega, seg_take _ _ _ hle, safeOf_append]
  · have hrs : rs = numd b ((all.drop (b - 1)).take (l.first - b)) := by
      by_cases h0 : i = 0
      · rw [(h.zero h0).2.2.2, hf, if_pos h0, Nat.sub_self, List.take_zero]; rfl
      · rw [(h.pos (by omega)).2.2.2.2, hf, if_neg h0]
    rw [hrs, show l.first + l.n - b = (l.first - b) + l.n by omega, List.take_add, numd_append, List.length_take, List.length_drop, Nat.min_eq_left (by omega), List.drop_drop, show b - 1 + (l.first - b) = l.first - 1 by omega, show b + (l.first - b) = l.first by omega]
    rfl
theorem OpInv.done (h : OpInv all Lz b i st La nx rs) (hi : i = Lz.length) (hb : 1 ≤ b) (hb2 : b = 1 ∨ b + 16 ≤ all.length + 1) : st = safeOf all ∧ La = Lz ∧ nx = all.length + 1 ∧ rs = numd b (all.drop (b - 1)) ∧ b ≤ all.length + 1 := by
  have hc := h.chain
  rw [hi, List.drop_length] at hc
  by_cases h0 : i = 0
  · have hz : Lz = [] := List.length_eq_zero_iff.1 (by omega)
    rw [← hi, if_pos h0] at hc
    have hbe : b = all.length + 1 := hc
    have hal : all = [] := List.length_eq_zero_iff.1 (by omega)
    obtain ⟨h1, h2, h3, h4⟩ := h.zero h0
    subst hal
    exact ⟨h1, by rw [h2, hz], by rw [h3]; rfl, by rw [h4]; simp [numd], by omega⟩
  · rw [← hi, if_neg h0] at hc
    have hne : nx = all.length + 1 := hc
    obtain ⟨h1, h2, h3, h4, h5⟩ := h.pos (by omega)
    refine ⟨?_, ?_, hne, ?_, by omega⟩
    · rw [h4, hne, Nat.add_sub_cancel, List.take_length]
    · rw [h1, hi, List.take_length]
    · rw [h5, hne, List.take_of_length_le (by rw [List.length_drop]; omega)]
end
theorem map_get {α β : Type} [Inhabited α] [Inhabited β] (f : α → β) (l : List α) (i : Nat) (h : i < l.length) : (l.map f).getD i default = f (l.getD i default) := by
  rw [List.getD_eq_getElem?_getD, List.getElem?_map, List.getD_eq_getElem?_getD, List.getElem?_eq_getElem h]; rfl
instance : Inhabited (Lf × Value) := ⟨(default, .slice none 0 0)⟩
end Go.Proofs.Ytknclcjmfgdphaa
namespace Go.Proofs.Ytknclcjmfgdphaa
open Go.RowKit Go.BK
/-- What an opening comes to. -/
def OpenR (mp : List (Int × Value)) (K : Nat) (all : List Rec) (e : Int) (m' : Mem) (mp' : List (Int × Value)) : Prop :=
  m'.wf K ∧ CutM mp' ∧ (mp = [] → mp' = []) ∧ (e = 0 ∨ (e = 14 ∧ m'.off = true ∧ mp ≠ [] ∧ ∃ L', MInv (pgM m') all L'))
def foundN (all : List Rec) (b : Nat) : List RecN := numd b (all.drop (b - 1))
set_option maxHeartbeats 4000000 in
set_option maxRecDepth 4000 in
theorem open_spec8 (mb : Nat) (o : Option Nat) (m : Mem) (K : Nat) (mp : List (Int × Value)) (all : List Rec) (L : List Lf) (w : World) (S : BSet) (hS : (sepL [.blk mb (Value.map (o) :: i64 (m).ar :: i64 (m).ac :: Value.bool (m).off :: ((m).pages.map str ++ (m).worn.map i64)).toArray 61, .omap o mp]).sat S w) (hm : m.wf K) (hK : K ≤ 1099511627774) (hoff : m.off = false) (ho : o = none → mp = []) (hC : CutM mp) (hI : MInv (pgM m) all L) :
    Tri Try.prog 11 #[ptr mb 0] w S fun u A => ∃ (e : Int) (m' : Mem) (mp' : List (Int × Value)), OpenR mp (K + 2) all e m' mp' ∧ ((e = 14 ∧ u = .tuple #[.pointer none, .slice none 0 0, i64 14] ∧ A = [.blk mb (Value.map (o) :: i64 (m').ar :: i64 (m').ac :: Value.bool (m').off :: ((m').pages.map str ++ (m').worn.map i64)).toArray 61, .omap o mp']) ∨ (e = 0 ∧ ∃ (jb : Nat) (rv lv : Value) (L' : List Lf) (a' : Int) (b : Nat), u = .tuple #[ptr jb 0, rv, i64 0] ∧ A = [.blk jb #[str (safeOf all).1, .bool (safeOf all).2, ptr mb 0, lv, i64 a', i64 ((all.length + 1 : Nat) : Int), .bool false] 41, .own 68 3 (lv) (L').length ((L').flatMap lfC), .blk mb (Value.map (o) :: i64 (m').ar :: i64 (m').ac :: Value.bool (m').off :: ((m').pages.map str ++ (m').worn.map i64)).toArray 61, .omap o mp', .own 34 3 (rv) (foundN all b).length ((foundN all b).flatMap recC)] ∧ JOk m' all (safeOf all) L' a' ((all.length + 1 : Nat) : Int) false ∧ 1 ≤ b ∧ b ≤ all.length + 1 ∧ (b = 1 ∨ b + 16 ≤ all.length + 1))) := by
  refine Tri.enter (l := [ptr mb 0]) Try.func11 rfl Try.ntmps11 rfl [(0, ptr mb 0)] (subA rfl) hS ?_
  have hfew := hI.few
  repeat first
    | (apply WL.q; exact rfl; exact rfl; exact rfl; (first | (apply EvW.move; exact rfl) | (apply EvW.assign; exact rfl)))
    | refine WC.seq ?_ | refine WC.region ?_ | refine WL.nil ?_ | refine WE.next ?_
  try refine WL.wanted rfl rfl rfl ?_
  apply WL.callA ([.blk mb (Value.map (o) :: i64 (m).ar :: i64 (m).ac :: Value.bool (m).off :: ((m).pages.map str ++ (m).worn.map i64)).toArray 61])
  · exact rfl
  · exact rfl
  · exact fun w => Try.call20 _ w
  · (focus ((repeat constructor); done))
  · exact fun w1 S1 hS1 hs1 ho1 => pages_spec mb o m K all L w1 S1 hS1 hm hoff hI
  rintro _ _ ⟨v, zs, rfl, rfl, hperm, hsort, hone⟩
  first | refine WL.app4 ?_ | refine WL.app3 ?_ | refine WL.app2 ?_ | refine WL.app1 ?_ | refine WL.app0 ?_ | skip
  have hI2 := hI.perm hperm hsort
  have hL24 := few_pages hI2.nodup hI2.lt
  rw [List.length_map] at hL24
  have hzml : (zs.map (fdOf all)).length = zs.length := List.length_map ..
  have hzl1 : (zs.map (·.1)).length = zs.length := List.length_map ..
  obtain ⟨b, hc, hb1, hb2⟩ := hI2.chain
  have hbe := hc.le.1
  repeat first
    | (apply WL.q; exact rfl; exact rfl; exact rfl; (first | (apply EvW.move; exact rfl) | (apply EvW.assign; exact rfl) | (apply EvW.extract; exact rfl; exact rfl) | (apply EvW.cmpF; exact rfl; exact rfl; exact rfl; omega) | (apply EvW.build; exact PlC.eq; exact ZvC.eq; exact rfl; exact rfl; (focus ((repeat (first | exact Fills.nil | (apply Fills.cons; exact rfl; (first | assumption | exact rfl); exact rfl) | exact SetMany.nil | apply SetMany.cons | apply SetMany.succ)); done)))))
    | refine WC.seq ?_ | refine WC.region ?_ | refine WL.nil ?_ | refine WE.next ?_ | refine WC.skip ?_ | refine WC.condF rfl ?_
  try refine WL.wanted rfl rfl rfl ?_
  (apply WL.box; exact rfl; exact rfl; exact rfl; intro jb)
  repeat first
    | (apply WL.q; exact rfl; exact rfl; exact rfl; (first | (apply EvW.move; exact rfl) | (apply EvW.assign; exact rfl) | (apply EvW.lenOwn; exact rfl; exact UndC.eq; (focus ((repeat constructor); done)))))
    | refine WC.seq ?_ | refine WC.region ?_ | refine WL.nil ?_ | refine WE.next ?_ | refine WC.block ?_
  refine WC.conv (fun _ hs => (hs.ownNil (e := 68) (sz := 3)).ownNil (e := 34) (sz := 3)) ?_
  refine WC.loopK (σ := Nat × St8 × Value × List Lf × Nat × Value × List RecN) [7, 25, 26] (fun s => [(27, i64 s.1), (8, s.2.2.2.2.2.1)]) (fun s => [.blk jb #[str (s.2.1).1, .bool (s.2.1).2, ptr mb 0, s.2.2.1, i64 0, i64 (s.2.2.2.2.1 : Int), .bool false] 41, .own 68 3 (s.2.2.1) (s.2.2.2.1).length ((s.2.2.2.1).flatMap lfC), .own 34 3 (s.2.2.2.2.2.1) (s.2.2.2.2.2.2).length ((s.2.2.2.2.2.2).flatMap recC), .own 70 6 (v) (zs.map (fdOf all)).length ((zs.map (fdOf all)).flatMap fdC), sepL (zs.map (recH all)), .blk mb (Value.map (o) :: i64 (m).ar :: i64 (m).ac :: Value.bool (m).off :: ((m).pages.map str ++ (m).worn.map i64)).toArray 61, .omap o mp]) (fun s => OpInv all (zs.map (·.1)) b s.1 s.2.1 s.2.2.2.1 s.2.2.2.2.1 s.2.2.2.2.2.2) (fun s => zs.length - s.1) (0, ([], false), .slice none 0 0, [], 1, .slice none 0 0, []) (by (focus ((repeat (first | exact Pick.nil | (apply Pick.cons; exact rfl))); done))) (by (focus ((repeat (first | exact trivial | (refine ⟨rfl, ?_⟩))); done))) (fun _ h => h.keep (by repeat constructor)) ⟨Nat.zero_le _, fun _ => ⟨rfl, rfl, rfl, rfl⟩, fun h => absurd h (Nat.lt_irrefl _), by rw [if_pos rfl, List.drop_zero]; exact hc⟩ (fun s hs => ?_)
  obtain ⟨i, st, lv, La, nx, rv, rs⟩ := s
  simp only [List.cons_append, List.nil_append] at hs ⊢
  (first | refine WL.slOwn (v := lv) (by repeat constructor) ?_ | refine WC.slOwn (v := lv) (by repeat constructor) ?_)
  intro hc_lv ho_lv
  (first | refine WL.slOwn (v := rv) (by repeat constructor) ?_ | refine WC.slOwn (v := rv) (by repeat constructor) ?_)
  intro hc_rv ho_rv
  by_cases hlt : (i : Int) < zs.length
  · have hi : i < zs.length := by omega
    have hi' : i < (zs.map (·.1)).length := by omega
    obtain ⟨z, hz⟩ : ∃ z, zs.getD i default = z := ⟨_, rfl⟩
    have hzf : (zs.map (fdOf all)).getD i default = fdOf all z := by rw [map_get _ _ _ hi, hz]
    have hzl : (zs.map (·.1)).getD i default = z.1 := by rw [map_get _ _ _ hi, hz]
    have htk := take_map_at (f := recH all) (d := (default : Lf × Value)) hi
    rw [hz] at htk
    have hone1 : (fdOf all z).v.oneCell' = true := hone _ (by rw [← hzf, List.getD_eq_getElem?_getD, List.getElem?_eq_getElem (by omega)]; exact List.getElem_mem _)
    obtain ⟨l, v1⟩ := z
    have hla := hI2.leaf l (by
      have h1 := lf_at hi'
      rw [hzl] at h1
      exact h1)
    have hsl := seg_len hla.le
    have hstep := hs.step hb1 hi' hzl hla.le
    have hOI := hs
    obtain ⟨hfirst, _⟩ := hs.at' hi' hzl
    have hv1 : v1.oneCell' = true := hone1
    have hcc : (fdC (fdOf all (l, v1))).all (·.oneCell') = true := oneC hv1
    refine WC.outL (L := zs.map (recH all)) (L' := (zs.map (recH all)).eraseIdx i) (z := .own 34 3 (v1) (numd l.first (seg all l.first l.n)).length ((numd l.first (seg all l.first l.n)).flatMap recC)) (by repeat constructor) (take_at htk) ?_
    repeat first
      | (apply WL.q; exact rfl; exact rfl; exact rfl; (first | (apply EvW.cmpT; exact rfl; exact rfl; exact rfl; omega) | (apply EvW.idxOwn; exact rfl; exact rfl; exact UndC.eq; exact SzC.eq; (focus ((repeat constructor); done)); omega; omega)))
      | refine WC.seq ?_ | refine WC.region ?_ | refine WL.nil ?_ | refine WE.next ?_ | refine WC.block ?_ | refine WC.skip ?_ | refine WC.condT rfl ?_
    try refine WL.wanted rfl rfl rfl ?_
    (apply WL.q; exact rfl; exact rfl; exact rfl; (apply EvW.ldElemOwn (xs := (zs.map (fdOf all))) (z := (default : Fd)) (f := fdC); exact rfl; exact AggC.eq; exact SzC.eq; exact rfl; exact fun _ => rfl; (focus ((repeat constructor); done)); omega))
    rw [show ((i : Nat) : Int).toNat = i from rfl, hzf]
    try refine WL.wanted rfl rfl rfl ?_
    (apply WL.alloc; exact rfl; exact ZvC.eq; exact rfl; intro fb)
    repeat first
      | refine WC.seq ?_ | refine WL.nil ?_ | refine WE.next ?_ | (apply WL.store; exact rfl; exact rfl; (first | assumption | exact rfl); exact SzC.eq; (first | assumption | exact rfl); (focus ((repeat constructor); done)))
    refine WC.keep (xs := [.blk jb #[str (st).1, .bool (st).2, ptr mb 0, lv, i64 0, i64 (nx : Int), .bool false] 41, .blk fb #[i64 (l).page, i64 (l).first, i64 (l).n, str (safeOf (all.take ((l).first - 1))).1, .bool (safeOf (all.take ((l).first - 1))).2, v1] 70, .own 68 3 (lv) (La).length ((La).flatMap lfC), .own 34 3 (rv) (rs).length ((rs).flatMap recC), .own 34 3 (v1) (numd l.first (seg all l.first l.n)).length ((numd l.first (seg all l.first l.n)).flatMap recC), sepL ((zs.map (recH all)).eraseIdx i), .own 70 6 (v) (zs.map (fdOf all)).length ((zs.map (fdOf all)).flatMap fdC), .blk mb (Value.map (o) :: i64 (m).ar :: i64 (m).ac :: Value.bool (m).off :: ((m).pages.map str ++ (m).worn.map i64)).toArray 61, .omap o mp]) (by repeat constructor) ?_
    repeat refine WC.seq ?_
    refine WC.keep (xs := [.blk jb #[str (st).1, .bool (st).2, ptr mb 0, lv, i64 0, i64 (nx : Int), .bool false] 41, .own 68 3 (lv) (La).length ((La).flatMap lfC), .own 34 3 (rv) (rs).length ((rs).flatMap recC), .own 34 3 (v1) (numd l.first (seg all l.first l.n)).length ((numd l.first (seg all l.first l.n)).flatMap recC), sepL ((zs.map (recH all)).eraseIdx i), .own 70 6 (v) (zs.map (fdOf all)).length ((zs.map (fdOf all)).flatMap fdC), .blk mb (Value.map (o) :: i64 (m).ar :: i64 (m).ac :: Value.bool (m).off :: ((m).pages.map str ++ (m).worn.map i64)).toArray 61, .omap o mp, .blk fb #[i64 (l).page, i64 (l).first, i64 (l).n, str (safeOf (all.take ((l).first - 1))).1, .bool (safeOf (all.take ((l).first - 1))).2, v1] 70]) (by repeat constructor) ?_
    apply WC.par _ (fun c : Ch => [.blk jb #[str (st).1, .bool (st).2, ptr mb 0, lv, i64 0, i64 (nx : Int), .bool false] 41, .own 68 3 (lv) (La).length ((La).flatMap lfC), .own 34 3 (rv) (rs).length ((rs).flatMap recC), .own 34 3 (v1) (numd l.first (seg all l.first l.n)).length ((numd l.first (seg all l.first l.n)).flatMap recC), sepL ((zs.map (recH all)).eraseIdx i), .own 70 6 (v) (zs.map (fdOf all)).length ((zs.map (fdOf all)).flatMap fdC), .blk mb (Value.map (o) :: i64 (m).ar :: i64 (m).ac :: Value.bool (m).off :: ((m).pages.map str ++ (m).worn.map i64)).toArray 61, .omap o mp, .blk fb #[i64 (l).page, i64 (l).first, i64 (l).n, str (safeOf (all.take ((l).first - 1))).1, .bool (safeOf (all.take ((l).first - 1))).2, v1] 70]) [none, none, none, none, none, none, none, none, none] [none, none, none, none, none, none, none, none, none] [] Try.mixed
    · (focus ((repeat (first | exact Restr.nil | (apply Restr.keep; exact rfl; exact rfl) | (apply Restr.drop; exact rfl))); done))
    · intro c; exact (by repeat constructor)
    · exact rfl
    · decide +kernel
    · decide +kernel
    · intro c
      (apply Par.quiet _ [true, true, true, true, true, true, true, true, true]; exact rfl; decide +kernel; exact rfl; intro R; refine ⟨_, (by repeat constructor), ?_⟩;
           (first | (apply EvW.fieldAddr0; exact rfl; exact FldC.eq)))
      (apply Par.quiet _ [true, true, true, true, true, true, true, true, true]; exact rfl; decide +kernel; exact rfl; intro R; refine ⟨_, (by repeat constructor), ?_⟩;
           (first | (apply EvW.fieldAddr0; exact rfl; exact FldC.eq)))
      (apply Par.quiet _ [true, true, true, true, true, true, true, true, true]; exact rfl; decide +kernel; exact rfl; intro R; refine ⟨_, (by repeat constructor), ?_⟩;
           (first | (apply EvW.load; exact rfl; exact ScalC.eq; (focus ((repeat constructor); done)); exact rfl)))
      (apply Par.quiet _ [true, true, true, true, true, true, true, true, true]; exact rfl; decide +kernel; exact rfl; intro R; refine ⟨_, (by repeat constructor), ?_⟩;
           (first | (apply EvW.move; exact rfl)))
      (apply Par.quiet _ [true, true, true, true, true, true, true, true, true]; exact rfl; decide +kernel; exact rfl; intro R; refine ⟨_, (by repeat constructor), ?_⟩;
           (first | (apply EvW.nilPtr; exact rfl)))
      (apply Par.quiet _ [true, true, true, true, true, true, true, true, true]; exact rfl; decide +kernel; exact rfl; intro R; refine ⟨_, (by repeat constructor), ?_⟩;
           (first | (apply EvW.fieldAddr0; exact rfl; exact FldC.eq)))
      (apply Par.quiet _ [true, true, true, true, true, true, true, true, true]; exact rfl; decide +kernel; exact rfl; intro R; refine ⟨_, (by repeat constructor), ?_⟩;
           (first | (apply EvW.load; exact rfl; exact ScalC.eq; (focus ((repeat constructor); done)); exact rfl)))
      (apply Par.quiet _ [true, true, true, true, true, true, true, true, true]; exact rfl; decide +kernel; exact rfl; intro R; refine ⟨_, (by repeat constructor), ?_⟩;
           (first | (apply EvW.cmp; exact rfl; exact rfl; exact rfl)))
      exact Par.nil
    · repeat (first | exact AllN.nil | (apply AllN.cons; (intro c x; (repeat (first | exact IndA.nil | (apply IndA.skip; decide +kernel) | apply IndA.same))))) 
    · repeat (first | exact AllN.nil | (apply AllN.cons; (intro c x; (repeat (first | exact IndT.nil | (apply IndT.skip; decide +kernel) | apply IndT.same))))) 
    · exact fun _ => rfl
    intro c
    refine ⟨_, (by repeat constructor), ?_⟩
    apply WE.writ
    · (focus ((repeat (first | exact Writ.nil | apply Writ.some | apply Writ.none)); done))
    repeat first
      | refine WE.next ?_
    refine WC.mid (fun s : Value × Value => [(27, i64 i), (8, s.2), (7, ptr jb 0), (10, ptr fb 0), (25, v), (26, i64 (zs.map (fdOf all)).length)]) (fun s => [.blk jb #[str (st).1, .bool (st).2, ptr mb 0, s.1, i64 0, i64 (l.first : Int), .bool false] 41, .own 68 3 (s.1) (La).length ((La).flatMap lfC), .own 34 3 (s.2) (rs).length ((rs).flatMap recC), .own 34 3 (v1) (numd l.first (seg all l.first l.n)).length ((numd l.first (seg all l.first l.n)).flatMap recC), sepL ((zs.map (recH all)).eraseIdx i), .own 70 6 (v) (zs.map (fdOf all)).length ((zs.map (fdOf all)).flatMap fdC), .blk mb (Value.map (o) :: i64 (m).ar :: i64 (m).ac :: Value.bool (m).off :: ((m).pages.map str ++ (m).worn.map i64)).toArray 61, .omap o mp, .blk fb #[i64 (l).page, i64 (l).first, i64 (l).n, str (safeOf (all.take ((l).first - 1))).1, .bool (safeOf (all.take ((l).first - 1))).2, v1] 70]) (fun _ => True) ?_ (fun s _ => ?_)
    · refine WC.condP rfl (fun hne => ?_) (fun heq => ?_)
      · have hne' : ¬ l.first = nx := fun h => hne (by rw [h])
        have hi0 : i = 0 := Classical.byContradiction fun h => hne' (by rw [hfirst, if_neg h])
        obtain ⟨_, hLa0, _, hrs0⟩ := hs.zero hi0
        skip
        repeat refine WC.seq ?_
        refine WC.keep (xs := [.blk jb #[str (st).1, .bool (st).2, ptr mb 0, lv, i64 0, i64 (nx : Int), .bool false] 41, .own 34 3 (v1) (numd l.first (seg all l.first l.n)).length ((numd l.first (seg all l.first l.n)).flatMap recC), sepL ((zs.map (recH all)).eraseIdx i), .own 70 6 (v) (zs.map (fdOf all)).length ((zs.map (fdOf all)).flatMap fdC), .blk mb (Value.map (o) :: i64 (m).ar :: i64 (m).ac :: Value.bool (m).off :: ((m).pages.map str ++ (m).worn.map i64)).toArray 61, .omap o mp, .blk fb #[i64 (l).page, i64 (l).first, i64 (l).n, str (safeOf (all.take ((l).first - 1))).1, .bool (safeOf (all.take ((l).first - 1))).2, v1] 70]) (by repeat constructor) ?_
        apply WC.par _ (fun c : Ch => [.blk jb #[str (st).1, .bool (st).2, ptr mb 0, lv, i64 0, i64 (nx : Int), .bool false] 41, .blk jb #[str (st).1, .bool (st).2, ptr mb 0, .slice none 0 0, i64 0, i64 (nx : Int), .bool false] 41, .blk jb #[str (st).1, .bool (st).2, ptr mb 0, .slice none 0 0, i64 0, i64 (l.first : Int), .bool false] 41, .own 34 3 (v1) (numd l.first (seg all l.first l.n)).length ((numd l.first (seg all l.first l.n)).flatMap recC), sepL ((zs.map (recH all)).eraseIdx i), .own 70 6 (v) (zs.map (fdOf all)).length ((zs.map (fdOf all)).flatMap fdC), .blk mb (Value.map (o) :: i64 (m).ar :: i64 (m).ac :: Value.bool (m).off :: ((m).pages.map str ++ (m).worn.map i64)).toArray 61, .omap o mp, .blk fb #[i64 (l).page, i64 (l).first, i64 (l).n, str (safeOf (all.take ((l).first - 1))).1, .bool (safeOf (all.take ((l).first - 1))).2, v1] 70]) [none, some 7, some 11, none, none, none, none, none, none] [some 7, some 11, none, none, none, none, none, none, none] [] Try.mixed
        · (focus ((repeat (first | exact Restr.nil | (apply Restr.keep; exact rfl; exact rfl) | (apply Restr.drop; exact rfl))); done))
        · intro c; exact (by repeat constructor)
        · exact rfl
        · decide +kernel
        · decide +kernel
        · intro c
          (apply Par.quiet _ [true, false, false, true, true, true, true, true, true]; exact rfl; decide +kernel; exact rfl; intro R; refine ⟨_, (by repeat constructor), ?_⟩;
               (first | (apply EvW.move; exact rfl)))
          (apply Par.quiet _ [false, false, false, true, true, true, true, true, true]; exact rfl; decide +kernel; exact rfl; intro R; refine ⟨_, (by repeat constructor), ?_⟩;
               (first | (apply EvW.move; exact rfl)))
          (apply Par.quiet _ [false, false, false, true, true, true, true, true, true]; exact rfl; decide +kernel; exact rfl; intro R; refine ⟨_, (by repeat constructor), ?_⟩;
               (first | (apply EvW.fieldAddr0; exact rfl; exact FldC.eq)))
          (apply Par.quiet _ [false, false, false, true, true, true, true, true, true]; exact rfl; decide +kernel; exact rfl; intro R; refine ⟨_, (by repeat constructor), ?_⟩;
               (first | (apply EvW.fieldAddr0; exact rfl; exact FldC.eq)))
          (apply Par.quiet _ [false, false, false, true, true, true, true, true, true]; exact rfl; decide +kernel; exact rfl; intro R; refine ⟨_, (by repeat constructor), ?_⟩;
               (first | (apply EvW.load; exact rfl; exact ScalC.eq; (focus ((repeat constructor); done)); exact rfl)))
          (apply Par.quiet _ [true, false, false, true, true, true, true, true, true]; exact rfl; decide +kernel; exact rfl; intro R; refine ⟨_, (by repeat constructor), ?_⟩;
               (first | (apply EvW.nilPtr; exact rfl)))
          (apply Par.quiet _ [true, false, false, true, true, true, true, true, true]; exact rfl; decide +kernel; exact rfl; intro R; refine ⟨_, (by repeat constructor), ?_⟩;
               (first | (apply EvW.fieldAddr0; exact rfl; exact FldC.eq)))
          (apply Par.eff _ [true, false, false, false, false, false, false, false, false] [false, true, false, false, false, false, false, false, false] [false, false, false, true, true, true, true, true, true]; exact rfl; exact rfl; decide +kernel; intro R; refine ⟨_, _, _, (by repeat constructor), (by repeat constructor), (by repeat constructor), ?_⟩; (apply EffW.store; exact rfl; exact rfl; (first | assumption | exact rfl); exact SzC.eq; (first | assumption | exact rfl); (focus ((repeat constructor); done))))
          (apply Par.quiet _ [false, true, false, true, true, true, true, true, true]; exact rfl; decide +kernel; exact rfl; intro R; refine ⟨_, (by repeat constructor), ?_⟩;
               (first | (apply EvW.assign; exact rfl)))
          (apply Par.quiet _ [false, true, false, true, true, true, true, true, true]; exact rfl; decide +kernel; exact rfl; intro R; refine ⟨_, (by repeat constructor), ?_⟩;
               (first | (apply EvW.nilPtr; exact rfl)))
          (apply Par.quiet _ [false, true, false, true, true, true, true, true, true]; exact rfl; decide +kernel; exact rfl; intro R; refine ⟨_, (by repeat constructor), ?_⟩;
               (first | (apply EvW.fieldAddr0; exact rfl; exact FldC.eq)))
          (apply Par.eff _ [false, true, false, false, false, false, false, false, false] [false, false, true, false, false, false, false, false, false] [false, false, false, true, true, true, true, true, true]; exact rfl; exact rfl; decide +kernel; intro R; refine ⟨_, _, _, (by repeat constructor), (by repeat constructor), (by repeat constructor), ?_⟩; (apply EffW.store; exact rfl; exact rfl; (first | assumption | exact rfl); exact SzC.eq; (first | assumption | exact rfl); (focus ((repeat constructor); done))))
          exact Par.nil
        · repeat (first | exact AllN.nil | (apply AllN.cons; (intro c x; (repeat (first | exact IndA.nil | (apply IndA.skip; decide +kernel) | apply IndA.same))))) 
        · repeat (first | exact AllN.nil | (apply AllN.cons; (intro c x; (repeat (first | exact IndT.nil | (apply IndT.skip; decide +kernel) | apply IndT.same))))) 
        · exact fun _ => rfl
        intro c
        refine ⟨_, (by repeat constructor), ?_⟩
        apply WE.writ
        · (focus ((repeat (first | exact Writ.nil | apply Writ.some | apply Writ.none)); done))
        refine WE.conv (fun _ hs => (hs.ownNil (e := 68) (sz := 3)).ownNil (e := 34) (sz := 3)) ?_
        rw [hLa0, hrs0]
        skip
        exact WE.mid ((.slice none 0 0, .slice none 0 0)) (trivial) (by (focus ((repeat (first | exact trivial | (refine ⟨rfl, ?_⟩))); done))) (fun _ h => (by (try simp only []); exact h.keep (by repeat constructor)))
      · have heq' : (l.first : Int) = (nx : Int) := Classical.not_not.1 heq
        rw [heq']
        repeat first
          | refine WC.skip ?_
        exact WE.mid ((lv, rv)) (trivial) (by (focus ((repeat (first | exact trivial | (refine ⟨rfl, ?_⟩))); done))) (fun _ h => (by (try simp only []); exact h.keep (by repeat constructor)))
    obtain ⟨lv2, rv2⟩ := s
    dsimp only
    have hnl : (numd l.first (seg all l.first l.n)).length = l.n := by rw [numd_len, hsl]
    have hlf := hla.f1
    have hlle := hla.le
    repeat first
      | (apply WL.q; exact rfl; exact rfl; exact rfl; (first | (apply EvW.move; exact rfl) | (apply EvW.nilPtr; exact rfl) | (apply EvW.fieldAddr0; exact rfl; exact FldC.eq) | (apply EvW.load; exact rfl; exact ScalC.eq; (focus ((repeat constructor); done)); exact rfl) | (apply EvW.loadAgg; exact rfl; exact AggC.eq; exact SzC.eq; (focus ((repeat constructor); done)); (focus ((repeat (first | exact SubL.nil | apply SubL.cons | apply SubL.succ)); done))) | (apply EvW.lenOwn; exact rfl; exact UndC.eq; (focus ((repeat constructor); done)))))
      | refine WC.seq ?_ | refine WC.region ?_ | refine WL.nil ?_ | refine WE.next ?_ | refine WC.block ?_ | (apply WL.store; exact rfl; exact rfl; (first | assumption | exact rfl); exact SzC.eq; (first | assumption | exact rfl); (focus ((repeat constructor); done)))
    refine WC.loopK (σ := Nat) [7, 8, 10, 25, 26, 27, 54, 55] (fun s => [(56, i64 s)]) (fun s => [.blk jb #[str (((seg all l.first l.n).take s).foldl noteF (safeOf (all.take (l.first - 1)))).1, .bool (((seg all l.first l.n).take s).foldl noteF (safeOf (all.take (l.first - 1)))).2, ptr mb 0, lv2, i64 0, i64 (l.first : Int), .bool false] 41, .own 68 3 (lv2) (La).length ((La).flatMap lfC), .own 34 3 (rv2) (rs).length ((rs).flatMap recC), .own 34 3 (v1) (numd l.first (seg all l.first l.n)).length ((numd l.first (seg all l.first l.n)).flatMap recC), sepL ((zs.map (recH all)).eraseIdx i), .own 70 6 (v) (zs.map (fdOf all)).length ((zs.map (fdOf all)).flatMap fdC), .blk mb (Value.map (o) :: i64 (m).ar :: i64 (m).ac :: Value.bool (m).off :: ((m).pages.map str ++ (m).worn.map i64)).toArray 61, .omap o mp, .blk fb #[i64 (l).page, i64 (l).first, i64 (l).n, str (safeOf (all.take ((l).first - 1))).1, .bool (safeOf (all.take ((l).first - 1))).2, v1] 70]) (fun s => s ≤ l.n) (fun s => l.n - s) 0 (by (focus ((repeat (first | exact Pick.nil | (apply Pick.cons; exact rfl))); done))) (by (focus ((repeat (first | exact trivial | (refine ⟨rfl, ?_⟩))); done))) (fun _ h => h.keep (by repeat constructor)) (Nat.zero_le _) (fun s hs => ?_)
    obtain ⟨k, rfl⟩ : ∃ q, q = s := ⟨s, rfl⟩
    simp only [List.cons_append, List.nil_append] at hs ⊢
    by_cases hk : (k : Int) < (numd l.first (seg all l.first l.n)).length
    · have hk' : k < (seg all l.first l.n).length := by omega
      have hng := numd_get (seg all l.first l.n) l.first k hk'
      have htk2 := rec_take hk'
      repeat first
        | (apply WL.q; exact rfl; exact rfl; exact rfl; (first | (apply EvW.cmpT; exact rfl; exact rfl; exact rfl; omega) | (apply EvW.idxOwn; exact rfl; exact rfl; exact UndC.eq; exact SzC.eq; (focus ((repeat constructor); done)); omega; omega)))
        | refine WC.seq ?_ | refine WC.region ?_ | refine WL.nil ?_ | refine WE.next ?_ | refine WC.block ?_ | refine WC.skip ?_ | refine WC.condT rfl ?_
      try refine WL.wanted rfl rfl rfl ?_
      (apply WL.q; exact rfl; exact rfl; exact rfl; (apply EvW.ldElemOwn (xs := (numd l.first (seg all l.first l.n))) (z := (default : RecN)) (f := recC); exact rfl; exact AggC.eq; exact SzC.eq; exact rfl; exact fun _ => rfl; (focus ((repeat constructor); done)); omega))
      rw [show ((k : Nat) : Int).toNat = k from rfl, hng]
      obtain ⟨r, hr⟩ : ∃ r, (seg all l.first l.n).getD k default = r := ⟨_, rfl⟩
      rw [hr] at htk2 ⊢
      have hfold : ((seg all l.first l.n).take (k + 1)).foldl noteF (safeOf (all.take (l.first - 1))) = noteF (((seg all l.first l.n).take k).foldl noteF (safeOf (all.take (l.first - 1)))) r := by rw [htk2, List.foldl_append]; rfl
      generalize ((seg all l.first l.n).take k).foldl noteF (safeOf (all.take (l.first - 1))) = st2 at hfold
      try refine WL.wanted rfl rfl rfl ?_
      (apply WL.alloc; exact rfl; exact ZvC.eq; exact rfl; intro xb)
      repeat first
        | refine WL.nil ?_ | refine WE.next ?_ | (apply WL.store; exact rfl; exact rfl; (first | assumption | exact rfl); exact SzC.eq; (first | assumption | exact rfl); (focus ((repeat constructor); done)))
      repeat refine WC.seq ?_
      refine WC.keep (xs := [.blk jb #[str (st2).1, .bool (st2).2, ptr mb 0, lv2, i64 0, i64 (l.first : Int), .bool false] 41, .own 68 3 (lv2) (La).length ((La).flatMap lfC), .own 34 3 (rv2) (rs).length ((rs).flatMap recC), .own 34 3 (v1) (numd l.first (seg all l.first l.n)).length ((numd l.first (seg all l.first l.n)).flatMap recC), sepL ((zs.map (recH all)).eraseIdx i), .own 70 6 (v) (zs.map (fdOf all)).length ((zs.map (fdOf all)).flatMap fdC), .blk mb (Value.map (o) :: i64 (m).ar :: i64 (m).ac :: Value.bool (m).off :: ((m).pages.map str ++ (m).worn.map i64)).toArray 61, .omap o mp, .blk fb #[i64 (l).page, i64 (l).first, i64 (l).n, str (safeOf (all.take ((l).first - 1))).1, .bool (safeOf (all.take ((l).first - 1))).2, v1] 70, .blk xb #[i64 ((l.first + k : Nat) : Int), i64 r.kind, str r.text] 34]) (by repeat constructor) ?_
      apply WC.par _ (fun c : Ch => [.blk jb #[str (st2).1, .bool (st2).2, ptr mb 0, lv2, i64 0, i64 (l.first : Int), .bool false] 41, .blk jb #[str (noteF st2 r).1, .bool (noteF st2 r).2, ptr mb 0, lv2, i64 0, i64 (l.first : Int), .bool false] 41, .own 68 3 (lv2) (La).length ((La).flatMap lfC), .own 34 3 (rv2) (rs).length ((rs).flatMap recC), .own 34 3 (v1) (numd l.first (seg all l.first l.n)).length ((numd l.first (seg all l.first l.n)).flatMap recC), sepL ((zs.map (recH all)).eraseIdx i), .own 70 6 (v) (zs.map (fdOf all)).length ((zs.map (fdOf all)).flatMap fdC), .blk mb (Value.map (o) :: i64 (m).ar :: i64 (m).ac :: Value.bool (m).off :: ((m).pages.map str ++ (m).worn.map i64)).toArray 61, .omap o mp, .blk fb #[i64 (l).page, i64 (l).first, i64 (l).n, str (safeOf (all.take ((l).first - 1))).1, .bool (safeOf (all.take ((l).first - 1))).2, v1] 70, .blk xb #[i64 ((l.first + k : Nat) : Int), i64 r.kind, str r.text] 34]) [none, some 7, none, none, none, none, none, none, none, none, none] [some 7, none, none, none, none, none, none, none, none, none, none] [] Try.mixed
      · (focus ((repeat (first | exact Restr.nil | (apply Restr.keep; exact rfl; exact rfl) | (apply Restr.drop; exact rfl))); done))
      · intro c; exact (by repeat constructor)
      · exact rfl
      · decide +kernel
      · decide +kernel
      · intro c
        (apply Par.quiet _ [true, false, true, true, true, true, true, true, true, true, true]; exact rfl; decide +kernel; exact rfl; intro R; refine ⟨_, (by repeat constructor), ?_⟩;
             (first | (apply EvW.move; exact rfl)))
        (apply Par.quiet _ [true, false, true, true, true, true, true, true, true, true, true]; exact rfl; decide +kernel; exact rfl; intro R; refine ⟨_, (by repeat constructor), ?_⟩;
             (first | (apply EvW.nilPtr; exact rfl)))
        (apply Par.quiet _ [true, false, true, true, true, true, true, true, true, true, true]; exact rfl; decide +kernel; exact rfl; intro R; refine ⟨_, (by repeat constructor), ?_⟩;
             (first | (apply EvW.fieldAddr0; exact rfl; exact FldC.eq)))
        (apply Par.quiet _ [true, false, true, true, true, true, true, true, true, true, true]; exact rfl; decide +kernel; exact rfl; intro R; refine ⟨_, (by repeat constructor), ?_⟩;
             (first | (apply EvW.fieldAddr0; exact rfl; exact FldC.eq)))
        (apply Par.quiet _ [true, false, true, true, true, true, true, true, true, true, true]; exact rfl; decide +kernel; exact rfl; intro R; refine ⟨_, (by repeat constructor), ?_⟩;
             (first | (apply EvW.load; exact rfl; exact ScalC.eq; (focus ((repeat constructor); done)); exact rfl)))
        (apply Par.quiet _ [true, false, true, true, true, true, true, true, true, true, true]; exact rfl; decide +kernel; exact rfl; intro R; refine ⟨_, (by repeat constructor), ?_⟩;
             (first | (apply EvW.fieldAddr0; exact rfl; exact FldC.eq)))
        (apply Par.quiet _ [true, false, true, true, true, true, true, true, true, true, true]; exact rfl; decide +kernel; exact rfl; intro R; refine ⟨_, (by repeat constructor), ?_⟩;
             (first | (apply EvW.load; exact rfl; exact ScalC.eq; (focus ((repeat constructor); done)); exact rfl)))
        apply Par.eff _ [true, false, false, false, false, false, false, false, false, false, false] [false, true, false, false, false, false, false, false, false, false, false] [false, false, true, true, true, true, true, true, true, true, true]
        · exact rfl
        · exact rfl
        · decide +kernel
        · intro R
          refine ⟨_, _, _, (by repeat constructor), (by repeat constructor), (by repeat constructor), ?_⟩
          apply EffW.callA ([.blk jb #[str (st2).1, .bool (st2).2, ptr mb 0, lv2, i64 0, i64 (l.first : Int), .bool false] 41])
          · exact rfl
          · exact fun w => Try.call21 _ w
          · (focus ((repeat constructor); done))
          · exact fun w1 S1 hS1 hs1 ho1 => jnote_spec jb mb st2 lv2 0 l.first false r w1 S1 hS1
          · exact fun _ _ h => h
          · exact fun _ h => TakeT.st (by (focus ((repeat (first | exact TakeT.tail | apply TakeT.cons | exact Take.head | apply Take.tail | apply TakeT.drop)); done))) h
        exact Par.nil
      · repeat (first | exact AllN.nil | (apply AllN.cons; (intro c x; (repeat (first | exact IndA.nil | (apply IndA.skip; decide +kernel) | apply IndA.same))))) 
      · repeat (first | exact AllN.nil | (apply AllN.cons; (intro c x; (repeat (first | exact IndT.nil | (apply IndT.skip; decide +kernel) | apply IndT.same))))) 
      · exact fun _ => rfl
      intro c
      refine ⟨_, (by repeat constructor), ?_⟩
      apply WE.writ
      · (focus ((repeat (first | exact Writ.nil | apply Writ.some | apply Writ.none)); done))
      rw [← hfold]
      repeat first
        | (apply WL.q; exact rfl; exact rfl; exact rfl; (first | (apply EvW.move; exact rfl) | (apply EvW.arN; exact rfl; exact rfl; exact rfl; refine i64_in ?_ ?_ <;> omega)))
        | refine WC.region ?_ | refine WL.nil ?_ | refine WE.next ?_ | refine WE.out ?_
      exact WE.again (s := k) (k + 1) (by omega) (by (focus ((repeat (first | exact trivial | (refine ⟨rfl, ?_⟩))); done))) (fun _ h => (by (try simp only []); exact h.keep (by repeat constructor))) (by (try simp only []); omega)
    have hkl : k = l.n := by omega
    rw [hkl, List.take_of_length_le (Nat.le_of_eq hsl)]
    obtain ⟨st3, hst3⟩ : ∃ st3, (seg all l.first l.n).foldl noteF (safeOf (all.take (l.first - 1))) = st3 := ⟨_, rfl⟩
    rw [hst3] at hstep ⊢
    have hLal : La.length ≤ 24 := by
      by_cases h0 : i = 0
      · rw [(hOI.zero h0).2.1]; exact Nat.zero_le _
      · rw [(hOI.pos (by omega)).1, List.length_take]; omega
    have hrsl : rs.length ≤ 4294967296 := by
      by_cases h0 : i = 0
      · rw [(hOI.zero h0).2.2.2]; exact Nat.zero_le _
      · rw [(hOI.pos (by omega)).2.2.2.2, numd_len, List.length_take, List.length_drop]; omega
    repeat first
      | (apply WL.q; exact rfl; exact rfl; exact rfl; (first | (apply EvW.cmpF; exact rfl; exact rfl; exact rfl; omega)))
      | refine WC.seq ?_ | refine WC.region ?_ | refine WL.nil ?_ | refine WE.next ?_ | refine WC.exit ?_ | refine WE.pass ?_ | refine WE.hit ?_ | refine WC.condF rfl ?_
    (first | refine WL.slOwn (v := lv2) (by repeat constructor) ?_ | refine WC.slOwn (v := lv2) (by repeat constructor) ?_)
    intro hc_lv2 ho_lv2
    repeat refine WC.seq ?_
    refine WC.keep (xs := [.blk jb #[str (st3).1, .bool (st3).2, ptr mb 0, lv2, i64 0, i64 (l.first : Int), .bool false] 41, .own 68 3 (lv2) (La).length ((La).flatMap lfC), .own 34 3 (rv2) (rs).length ((rs).flatMap recC), .own 34 3 (v1) (numd l.first (seg all l.first l.n)).length ((numd l.first (seg all l.first l.n)).flatMap recC), sepL ((zs.map (recH all)).eraseIdx i), .own 70 6 (v) (zs.map (fdOf all)).length ((zs.map (fdOf all)).flatMap fdC), .blk mb (Value.map (o) :: i64 (m).ar :: i64 (m).ac :: Value.bool (m).off :: ((m).pages.map str ++ (m).worn.map i64)).toArray 61, .omap o mp, .blk fb #[i64 (l).page, i64 (l).first, i64 (l).n, str (safeOf (all.take ((l).first - 1))).1, .bool (safeOf (all.take ((l).first - 1))).2, v1] 70]) (by repeat constructor) ?_
    apply WC.par _ (fun c : Ch => [.blk jb #[str (st3).1, .bool (st3).2, ptr mb 0, lv2, i64 0, i64 (l.first : Int), .bool false] 41, .blk jb #[str (st3).1, .bool (st3).2, ptr mb 0, (c 8).2, i64 0, i64 (l.first : Int), .bool false] 41, .own 68 3 (lv2) (La).length ((La).flatMap lfC), .own 68 3 ((c 8).2) (La.length + 1) (La.flatMap lfC ++ [i64 l.page, i64 l.first, i64 l.n]), .blk (c 7).1 #[i64 l.page, i64 l.first, i64 l.n] 68, .own 34 3 (rv2) (rs).length ((rs).flatMap recC), .own 34 3 (v1) (numd l.first (seg all l.first l.n)).length ((numd l.first (seg all l.first l.n)).flatMap recC), sepL ((zs.map (recH all)).eraseIdx i), .own 70 6 (v) (zs.map (fdOf all)).length ((zs.map (fdOf all)).flatMap fdC), .blk mb (Value.map (o) :: i64 (m).ar :: i64 (m).ac :: Value.bool (m).off :: ((m).pages.map str ++ (m).worn.map i64)).toArray 61, .omap o mp, .blk fb #[i64 (l).page, i64 (l).first, i64 (l).n, str (safeOf (all.take ((l).first - 1))).1, .bool (safeOf (all.take ((l).first - 1))).2, v1] 70]) [none, some 11, none, some 8, some 7, none, none, none, none, none, none, none] [some 11, none, some 8, none, none, none, none, none, none, none, none, none] [(7, fun x => .slice (some ⟨x.1, 0, none⟩) 1 1), (8, fun x => x.2)] Try.mixed
    · (focus ((repeat (first | exact Restr.nil | (apply Restr.keep; exact rfl; exact rfl) | (apply Restr.drop; exact rfl))); done))
    · intro c; exact (by repeat constructor)
    · exact rfl
    · decide +kernel
    · decide +kernel
    · intro c
      (apply Par.quiet _ [true, false, false, false, false, true, true, true, true, true, true, true]; exact rfl; decide +kernel; exact rfl; intro R; refine ⟨_, (by repeat constructor), ?_⟩;
           (first | (apply EvW.move; exact rfl)))
      (apply Par.quiet _ [true, false, true, false, false, true, true, true, true, true, true, true]; exact rfl; decide +kernel; exact rfl; intro R; refine ⟨_, (by repeat constructor), ?_⟩;
           (first | (apply EvW.move; exact rfl)))
      (apply Par.quiet _ [true, false, true, false, false, true, true, true, true, true, true, true]; exact rfl; decide +kernel; exact rfl; intro R; refine ⟨_, (by repeat constructor), ?_⟩;
           (first | (apply EvW.nilPtr; exact rfl)))
      (apply Par.quiet _ [true, false, true, false, false, true, true, true, true, true, true, true]; exact rfl; decide +kernel; exact rfl; intro R; refine ⟨_, (by repeat constructor), ?_⟩;
           (first | (apply EvW.fieldAddr0; exact rfl; exact FldC.eq)))
      (apply Par.quiet _ [true, false, true, false, false, true, true, true, true, true, true, true]; exact rfl; decide +kernel; exact rfl; intro R; refine ⟨_, (by repeat constructor), ?_⟩;
           (first | (apply EvW.load; exact rfl; exact ScalC.eq; (focus ((repeat constructor); done)); exact rfl)))
      (apply Par.quiet _ [true, false, true, false, false, true, true, true, true, true, true, true]; exact rfl; decide +kernel; exact rfl; intro R; refine ⟨_, (by repeat constructor), ?_⟩;
           (first | (apply EvW.fieldAddr0; exact rfl; exact FldC.eq)))
      (apply Par.quiet _ [true, false, true, false, false, true, true, true, true, true, true, true]; exact rfl; decide +kernel; exact rfl; intro R; refine ⟨_, (by repeat constructor), ?_⟩;
           (first | (apply EvW.loadAgg; exact rfl; exact AggC.eq; exact SzC.eq; (focus ((repeat constructor); done)); (focus ((repeat (first | exact SubL.nil | apply SubL.cons | apply SubL.succ)); done)))))
      (apply Par.new _ [false, false, false, false, false, false, false, false, false, false, false, false] [false, false, false, false, true, false, false, false, false, false, false, false] [true, false, true, false, false, true, true, true, true, true, true, true]; exact rfl; exact rfl; decide +kernel; intro R; refine ⟨_, _, _, (by repeat constructor), (by repeat constructor), (fun x => (by repeat constructor)), ?_⟩; (apply NewW.buildSlice; exact UndC.eq; exact SzC.eq; exact ZvC.eq; exact rfl; exact rfl; exact rfl; (focus ((repeat (first | exact Flat.nil | (apply Flat.one; (first | exact rfl | assumption)) | (apply Flat.cons; exact rfl; exact rfl))); done)); exact rfl; exact rfl; exact fun _ => rfl))
      apply Par.new _ [false, false, true, false, false, false, false, false, false, false, false, false] [false, false, false, true, false, false, false, false, false, false, false, false] [true, false, false, false, true, true, true, true, true, true, true, true]
      · exact rfl
      · exact rfl
      · decide +kernel
      · intro R
        refine ⟨_, _, _, (by repeat constructor), (by repeat constructor), (fun x => (by repeat constructor)), ?_⟩
        (apply NewW.append; exact rfl; exact rfl; exact UndC.eq; exact SzC.eq; exact ByC.eq; exact ZvC.eq; exact rfl; (first | exact notInt_sl UndC.eq | exact notInt_st UndC.eq); exact rfl; (focus ((repeat constructor); done)))
        · exact adds_blk (by repeat constructor) rfl rfl
        · (omega)
        · exact fun _ _ h => TakeT.st (by (focus ((repeat (first | exact TakeT.tail | apply TakeT.cons | exact Take.head | apply Take.tail | apply TakeT.drop)); done))) h
      (apply Par.quiet _ [true, false, false, true, true, true, true, true, true, true, true, true]; exact rfl; decide +kernel; exact rfl; intro R; refine ⟨_, (by repeat constructor), ?_⟩;
           (first | (apply EvW.nilPtr; exact rfl)))
      (apply Par.quiet _ [true, false, false, true, true, true, true, true, true, true, true, true]; exact rfl; decide +kernel; exact rfl; intro R; refine ⟨_, (by repeat constructor), ?_⟩;
           (first | (apply EvW.fieldAddr0; exact rfl; exact FldC.eq)))
      apply Par.eff _ [true, false, false, false, false, false, false, false, false, false, false, false] [false, true, false, false, false, false, false, false, false, false, false, false] [false, false, false, true, true, true, true, true, true, true, true, true]
      · exact rfl
      · exact rfl
      · decide +kernel
      · intro R
        refine ⟨_, _, _, (by repeat constructor), (by repeat constructor), (by repeat constructor), ?_⟩
        (apply EffW.storeSl; exact rfl; exact rfl; (focus ((repeat constructor); done)); exact SzC.eq; (focus ((repeat constructor); done)))
      exact Par.nil
    · repeat (first | exact AllN.nil | (apply AllN.cons; (intro c x; (repeat (first | exact IndA.nil | (apply IndA.skip; decide +kernel) | apply IndA.same))))) 
    · repeat (first | exact AllN.nil | (apply AllN.cons; (intro c x; (repeat (first | exact IndT.nil | (apply IndT.skip; decide +kernel) | apply IndT.same))))) 
    · exact fun _ => rfl
    intro c
    refine ⟨_, (by repeat constructor), ?_⟩
    apply WE.writ
    · (focus ((repeat (first | exact Writ.nil | apply Writ.some | apply Writ.none)); done))
    generalize (c 7).1 = b7
    generalize (c 8).2 = lv3
    have eL : HP.own 68 3 lv3 (La.length + 1) (La.flatMap lfC ++ [i64 l.page, i64 l.first, i64 l.n]) = .own 68 3 (lv3) (La ++ [l]).length ((La ++ [l]).flatMap lfC) := by
      rw [List.flatMap_append, List.length_append]; rfl
    rw [eL]
    have hnrl : ((numd l.first (seg all l.first l.n)).flatMap recC).length = (numd l.first (seg all l.first l.n)).length * 3 := flat_recN _
    repeat first
      | (apply WL.q; exact rfl; exact rfl; exact rfl; (first | (apply EvW.move; exact rfl) | (apply EvW.fieldAddr0; exact rfl; exact FldC.eq) | (apply EvW.load; exact rfl; exact ScalC.eq; (focus ((repeat constructor); done)); exact rfl)))
      | refine WC.seq ?_ | refine WC.region ?_ | refine WE.next ?_
    try refine WL.wanted rfl rfl rfl ?_
    (apply WL.append; exact rfl; exact rfl; exact rfl; exact UndC.eq; exact SzC.eq; exact ByC.eq; exact ZvC.eq; exact rfl; (first | exact notInt_sl UndC.eq | exact notInt_st UndC.eq); exact rfl; (focus ((repeat constructor); done)))
    · exact adds_own (ee := 34) (by repeat constructor) hnrl (all_recN _)
    · (omega)
    intro rv3
    refine WL.ownEq (cs' := (rs ++ numd l.first (seg all l.first l.n)).flatMap recC) (len' := (rs ++ numd l.first (seg all l.first l.n)).length) .head (by rw [List.length_append]) (by rw [List.flatMap_append]) ?_
    refine WL.backL (L := zs.map (recH all)) (L' := (zs.map (recH all)).eraseIdx i) (z := .own 34 3 (v1) (numd l.first (seg all l.first l.n)).length ((numd l.first (seg all l.first l.n)).flatMap recC)) (by repeat constructor) (by repeat constructor) (take_at htk) ?_
    repeat first
      | (apply WL.q; exact rfl; exact rfl; exact rfl; (first | (apply EvW.assign; exact rfl)))
      | refine WL.nil ?_ | refine WE.next ?_
    repeat refine WC.seq ?_
    refine WC.keep (xs := [.blk jb #[str (st3).1, .bool (st3).2, ptr mb 0, lv3, i64 0, i64 (l.first : Int), .bool false] 41, .own 68 3 (lv3) (La ++ [l]).length ((La ++ [l]).flatMap lfC), .own 34 3 (rv3) (rs ++ numd l.first (seg all l.first l.n)).length ((rs ++ numd l.first (seg all l.first l.n)).flatMap recC), .own 70 6 (v) (zs.map (fdOf all)).length ((zs.map (fdOf all)).flatMap fdC), .blk mb (Value.map (o) :: i64 (m).ar :: i64 (m).ac :: Value.bool (m).off :: ((m).pages.map str ++ (m).worn.map i64)).toArray 61, .omap o mp, .blk fb #[i64 (l).page, i64 (l).first, i64 (l).n, str (safeOf (all.take ((l).first - 1))).1, .bool (safeOf (all.take ((l).first - 1))).2, v1] 70, sepL (zs.map (recH all))]) (by repeat constructor) ?_
    apply WC.par _ (fun c : Ch => [.blk jb #[str (st3).1, .bool (st3).2, ptr mb 0, lv3, i64 0, i64 (l.first : Int), .bool false] 41, .blk jb #[str (st3).1, .bool (st3).2, ptr mb 0, lv3, i64 0, i64 ((l.first + l.n : Nat) : Int), .bool false] 41, .own 68 3 (lv3) (La ++ [l]).length ((La ++ [l]).flatMap lfC), .own 34 3 (rv3) (rs ++ numd l.first (seg all l.first l.n)).length ((rs ++ numd l.first (seg all l.first l.n)).flatMap recC), .own 70 6 (v) (zs.map (fdOf all)).length ((zs.map (fdOf all)).flatMap fdC), .blk mb (Value.map (o) :: i64 (m).ar :: i64 (m).ac :: Value.bool (m).off :: ((m).pages.map str ++ (m).worn.map i64)).toArray 61, .omap o mp, .blk fb #[i64 (l).page, i64 (l).first, i64 (l).n, str (safeOf (all.take ((l).first - 1))).1, .bool (safeOf (all.take ((l).first - 1))).2, v1] 70, sepL (zs.map (recH all))]) [none, some 10, none, none, none, none, none, none, none] [some 10, none, none, none, none, none, none, none, none] [] Try.mixed
    · (focus ((repeat (first | exact Restr.nil | (apply Restr.keep; exact rfl; exact rfl) | (apply Restr.drop; exact rfl))); done))
    · intro c; exact (by repeat constructor)
    · exact rfl
    · decide +kernel
    · decide +kernel
    · intro c
      (apply Par.quiet _ [true, false, true, true, true, true, true, true, true]; exact rfl; decide +kernel; exact rfl; intro R; refine ⟨_, (by repeat constructor), ?_⟩;
           (first | (apply EvW.move; exact rfl)))
      (apply Par.quiet _ [true, false, true, true, true, true, true, true, true]; exact rfl; decide +kernel; exact rfl; intro R; refine ⟨_, (by repeat constructor), ?_⟩;
           (first | (apply EvW.nilPtr; exact rfl)))
      (apply Par.quiet _ [true, false, true, true, true, true, true, true, true]; exact rfl; decide +kernel; exact rfl; intro R; refine ⟨_, (by repeat constructor), ?_⟩;
           (first | (apply EvW.fieldAddr0; exact rfl; exact FldC.eq)))
      (apply Par.quiet _ [true, false, true, true, true, true, true, true, true]; exact rfl; decide +kernel; exact rfl; intro R; refine ⟨_, (by repeat constructor), ?_⟩;
           (first | (apply EvW.load; exact rfl; exact ScalC.eq; (focus ((repeat constructor); done)); exact rfl)))
      (apply Par.quiet _ [true, false, true, true, true, true, true, true, true]; exact rfl; decide +kernel; exact rfl; intro R; refine ⟨_, (by repeat constructor), ?_⟩;
           (first | (apply EvW.fieldAddr0; exact rfl; exact FldC.eq)))
      (apply Par.quiet _ [true, false, true, true, true, true, true, true, true]; exact rfl; decide +kernel; exact rfl; intro R; refine ⟨_, (by repeat constructor), ?_⟩;
           (first | (apply EvW.fieldAddr0; exact rfl; exact FldC.eq)))
      (apply Par.quiet _ [true, false, true, true, true, true, true, true, true]; exact rfl; decide +kernel; exact rfl; intro R; refine ⟨_, (by repeat constructor), ?_⟩;
           (first | (apply EvW.load; exact rfl; exact ScalC.eq; (focus ((repeat constructor); done)); exact rfl)))
      (apply Par.quiet _ [true, false, true, true, true, true, true, true, true]; exact rfl; decide +kernel; exact rfl; intro R; refine ⟨_, (by repeat constructor), ?_⟩;
           (first | (apply EvW.arN; exact rfl; exact rfl; exact rfl; refine i64_in ?_ ?_ <;> omega)))
      (apply Par.quiet _ [true, false, true, true, true, true, true, true, true]; exact rfl; decide +kernel; exact rfl; intro R; refine ⟨_, (by repeat constructor), ?_⟩;
           (first | (apply EvW.nilPtr; exact rfl)))
      (apply Par.quiet _ [true, false, true, true, true, true, true, true, true]; exact rfl; decide +kernel; exact rfl; intro R; refine ⟨_, (by repeat constructor), ?_⟩;
           (first | (apply EvW.fieldAddr0; exact rfl; exact FldC.eq)))
      (apply Par.eff _ [true, false, false, false, false, false, false, false, false] [false, true, false, false, false, false, false, false, false] [false, false, true, true, true, true, true, true, true]; exact rfl; exact rfl; decide +kernel; intro R; refine ⟨_, _, _, (by repeat constructor), (by repeat constructor), (by repeat constructor), ?_⟩; (apply EffW.store; exact rfl; exact rfl; (first | assumption | exact rfl); exact SzC.eq; (first | assumption | exact rfl); (focus ((repeat constructor); done))))
      exact Par.nil
    · repeat (first | exact AllN.nil | (apply AllN.cons; (intro c x; (repeat (first | exact IndA.nil | (apply IndA.skip; decide +kernel) | apply IndA.same))))) 
    · repeat (first | exact AllN.nil | (apply AllN.cons; (intro c x; (repeat (first | exact IndT.nil | (apply IndT.skip; decide +kernel) | apply IndT.same))))) 
    · exact fun _ => rfl
    intro c
    refine ⟨_, (by repeat constructor), ?_⟩
    apply WE.writ
    · (focus ((repeat (first | exact Writ.nil | apply Writ.some | apply Writ.none)); done))
    repeat first
      | (apply WL.q; exact rfl; exact rfl; exact rfl; (first | (apply EvW.move; exact rfl) | (apply EvW.arN; exact rfl; exact rfl; exact rfl; refine i64_in ?_ ?_ <;> omega)))
      | refine WC.region ?_ | refine WL.nil ?_ | refine WE.next ?_ | refine WE.out ?_
    exact WE.again (s := (i, st, lv, La, nx, rv, rs)) ((i + 1, st3, lv3, La ++ [l], l.first + l.n, rv3, rs ++ numd l.first (seg all l.first l.n))) hstep (by (focus ((repeat (first | exact trivial | (refine ⟨rfl, ?_⟩))); done))) (fun _ h => (by (try simp only []); exact h.keep (by repeat constructor))) (by (try simp only []); omega)
  have hil : i = (zs.map (·.1)).length := by have := hs.le; omega
  obtain ⟨d1, d2, d3, d4, d5⟩ := hs.done hil hb1 hb2
  subst d1 d2 d3 d4
  repeat first
    | (apply WL.q; exact rfl; exact rfl; exact rfl; (first | (apply EvW.move; exact rfl) | (apply EvW.cmpF; exact rfl; exact rfl; exact rfl; omega)))
    | refine WC.seq ?_ | refine WC.region ?_ | refine WL.nil ?_ | refine WE.next ?_ | refine WC.exit ?_ | refine WE.pass ?_ | refine WE.hit ?_ | refine WC.condF rfl ?_
  try refine WL.wanted rfl rfl rfl ?_
  apply WL.callA ([.blk jb #[str (safeOf all).1, .bool (safeOf all).2, ptr mb 0, lv, i64 0, i64 ((all.length + 1 : Nat) : Int), .bool false] 41, .own 68 3 (lv) (zs.map (·.1)).length ((zs.map (·.1)).flatMap lfC), .blk mb (Value.map (o) :: i64 (m).ar :: i64 (m).ac :: Value.bool (m).off :: ((m).pages.map str ++ (m).worn.map i64)).toArray 61, .omap o mp])
  · exact rfl
  · exact rfl
  · exact fun w => Try.call22 _ w
  · (focus ((repeat constructor); done))
  · exact fun w1 S1 hS1 hs1 ho1 => turn_spec jb mb o m K mp (safeOf all) lv (zs.map (·.1)) 0 ((all.length + 1 : Nat) : Int) false all w1 S1 hS1 hm (by omega) hoff ho hC hI2 rfl rfl
  rintro _ _ ⟨e, m1, mp1, lv1, L1, a1, rfl, rfl, hT⟩
  first | refine WL.app4 ?_ | refine WL.app3 ?_ | refine WL.app2 ?_ | refine WL.app1 ?_ | refine WL.app0 ?_ | skip
  obtain ⟨hw1, hC1, hmp1, hres⟩ := hT
  rcases hres with ⟨rfl, hoff1, L01, l1, at1, rfl, rfl, hJ1, hat1, hf1, hn1⟩ | ⟨rfl, hoff1, hmpne, hI3⟩
  · repeat first
      | (apply WL.q; exact rfl; exact rfl; exact rfl; (first | (apply EvW.move; exact rfl) | (apply EvW.assign; exact rfl) | (apply EvW.cmpF; exact rfl; exact rfl; exact rfl; omega)))
      | refine WC.seq ?_ | refine WC.region ?_ | refine WL.nil ?_ | refine WE.next ?_ | refine WC.skip ?_ | refine WC.condF rfl ?_ | refine WC.ret ?_
    refine WE.keep (xs := [.blk jb #[str (safeOf all).1, .bool (safeOf all).2, ptr mb 0, lv1, i64 (at1 : Int), i64 ((all.length + 1 : Nat) : Int), .bool false] 41, .own 68 3 (lv1) (L01 ++ [l1]).length ((L01 ++ [l1]).flatMap lfC), .blk mb (Value.map (o) :: i64 (m1).ar :: i64 (m1).ac :: Value.bool (m1).off :: ((m1).pages.map str ++ (m1).worn.map i64)).toArray 61, .omap o mp1, .own 34 3 (rv) (numd b (all.drop (b - 1))).length ((numd b (all.drop (b - 1))).flatMap recC)]) (by repeat constructor) ?_
    refine WE.retN (l := [2, 3, 4]) rfl rfl rfl ?_
    exact ⟨0, m1, mp1, ⟨hw1, hC1, hmp1, .inl rfl⟩, .inr ⟨rfl, jb, rv, lv1, L01 ++ [l1], at1, b, rfl, rfl, ⟨hoff1, rfl, rfl, rfl, L01, l1, at1, rfl, rfl, hJ1⟩, hb1, d5, hb2⟩⟩
  · repeat first
      | (apply WL.q; exact rfl; exact rfl; exact rfl; (first | (apply EvW.move; exact rfl) | (apply EvW.assign; exact rfl) | (apply EvW.cmpT; exact rfl; exact rfl; exact rfl; omega)))
      | refine WC.seq ?_ | refine WC.region ?_ | refine WL.nil ?_ | refine WE.next ?_ | refine WC.condT rfl ?_ | refine WC.ret ?_ | refine WE.passRet ?_
    refine WE.keep (xs := [.blk mb (Value.map (o) :: i64 (m1).ar :: i64 (m1).ac :: Value.bool (m1).off :: ((m1).pages.map str ++ (m1).worn.map i64)).toArray 61, .omap o mp1]) (by repeat constructor) ?_
    refine WE.retN (l := [2, 3, 4]) rfl rfl rfl ?_
    exact ⟨14, m1, mp1, ⟨hw1, hC1, hmp1, .inr ⟨rfl, hoff1, hmpne, hI3⟩⟩, .inl ⟨rfl, rfl, rfl⟩⟩
end Go.Proofs.Ytknclcjmfgdphaa
namespace Go.BK
theorem Tri.post {P : Program} {w0 : World} {S0 : BSet} {f : FuncId} {args : Array Value} {R R' : Value → List HP → Prop} (h : Tri P f args w0 S0 R) (k : ∀ v A, R v A → ∃ A', R' v A' ∧ ∀ w, St w0 S0 A w → St w0 S0 A' w) : Tri P f args w0 S0 R' :=
  ⟨h.go.mono fun _ _ ⟨v, A, h1, h2, h3⟩ => by obtain ⟨A', h4, h5⟩ := k v A h2; exact ⟨v, A', h1, h4, h5 _ h3⟩⟩
/-- What a call does not own stays beside it. -/
theorem Tri.frame {P : Program} {w : World} {S : BSet} {f : FuncId} {args : Array Value} {R : Value → List HP → Prop} {A A1 A2 : List HP} (ht : TakeL A1 A A2) (hS : (sepL A).sat S w) (h : ∀ S1, (∀ b, S1 b → S b) → (sepL A1).sat S1 w → Tri P f args w S1 R) : Tri P f args w S fun u B => ∃ B1, R u B1 ∧ B = B1 ++ A2 := by
  obtain ⟨S1, S2, hu, hd, h4, h5⟩ := ht.star hS
  refine ⟨(h S1 (fun b hb => (hu b).2 (.inl hb)) h4).go.mono ?_⟩
  rintro e w' ⟨v, B1, rfl, hR, S', h6, h7, h8⟩
  refine ⟨v, B1 ++ A2, rfl, ⟨B1, hR, rfl⟩, fun b => S' b ∨ S2 b, sepL_append ⟨S', S2, fun _ => Iff.rfl, fun b hb hb2 => ?_, h6, (sepL A2).loc h5 fun b hb => h7.keep b ((sepL A2).bnd h5 hb) fun h => hd b h hb⟩, ⟨h7.os, h7.tape, h7.output, h7.size, fun b hb hnb => h7.keep b hb fun h => hnb ((hu b).2 (.inl h))⟩, fun b hb => ?_⟩
  · rcases h8 b hb with h | h
    · exact hd b h hb2
    · have := (sepL A2).bnd h5 hb2; omega
  · rcases hb with hb | hb
    · rcases h8 b hb with h | h
      · exact .inl ((hu b).2 (.inl h))
      · exact .inr h
    · exact .inl ((hu b).2 (.inr hb))
theorem sees_sub {w : World} {S S1 : BSet} {B : HP} (h : Sees w S B) (hs : ∀ b, S1 b → S b) : Sees w S1 B := by
  obtain ⟨R, h1, h2⟩ := h
  exact ⟨R, h1, fun b hb hb1 => h2 b hb (hs b hb1)⟩
theorem sat_pure {φ : Prop} {L : List HP} {S : BSet} {w : World} (hp : φ) (h : (sepL L).sat S w) : (sepL (.pure φ :: L)).sat S w := ⟨fun _ => False, S, fun b => by simp, fun _ h => h.elim, ⟨fun _ h => h, hp⟩, h⟩
theorem pure_sat {φ : Prop} {L : List HP} {S : BSet} {w : World} (h : (sepL (.pure φ :: L)).sat S w) : φ ∧ (sepL L).sat S w := by
  obtain ⟨S1, S2, hu, _, ⟨h1, hp⟩, h2⟩ := h
  refine ⟨hp, HP.sat_congr h2 fun b => ⟨fun hb => (hu b).2 (.inr hb), fun hb => ((hu b).1 hb).elim (fun h => absurd h (h1 b)) id⟩⟩
theorem sat_ex {α : Type} {f : α → List HP} {L : List HP} {S : BSet} {w : World} (a : α) (h : (sepL (f a ++ L)).sat S w) : (sepL ((.ex fun x => sepL (f x)) :: L)).sat S w := by
  have h1 := sepL_unappend h
  exact star_mono h1 (fun _ h => ⟨a, h⟩) fun _ h => h
theorem ex_sat {α : Type} {f : α → List HP} {L : List HP} {S : BSet} {w : World} (h : (sepL ((.ex fun x => sepL (f x)) :: L)).sat S w) : ∃ a, (sepL (f a ++ L)).sat S w := by
  obtain ⟨S1, S2, hu, hd, ⟨a, h1⟩, h2⟩ := h
  exact ⟨a, sepL_append ⟨S1, S2, hu, hd, h1, h2⟩⟩
end Go.BK
namespace Go.Proofs.Ytknclcjmfgdphaa
open Go.RowKit Go.BK
abbrev MX := Option Nat × Mem × List (Int × Value)
abbrev JX := Value × List Lf × Int
def numN (all : List Rec) : Int := ((all.length + 1 : Nat) : Int)
def MP (K : Nat) (nc : Bool) (x : MX) : Prop := x.2.1.wf K ∧ CutM x.2.2 ∧ (x.1 = none → x.2.2 = []) ∧ (nc = true → x.2.2 = [])
def UpP (K : Nat) (nc : Bool) (all : List Rec) (x : MX × JX) : Prop := MP K nc x.1 ∧ JOk x.1.2.1 all (safeOf all) x.2.2.1 x.2.2.2 (numN all) false
def upH (jb mb K : Nat) (nc : Bool) (all : List Rec) : HP := .ex fun x : MX × JX => sepL [.pure (UpP K nc all x), .blk jb #[str (safeOf all).1, .bool (safeOf all).2, ptr mb 0, x.2.1, i64 x.2.2.2, i64 (numN all), .bool false] 41, .own 68 3 (x.2.1) (x.2.2.1).length ((x.2.2.1).flatMap lfC), .blk mb (Value.map (x.1.1) :: i64 (x.1.2.1).ar :: i64 (x.1.2.1).ac :: Value.bool (x.1.2.1).off :: ((x.1.2.1).pages.map str ++ (x.1.2.1).worn.map i64)).toArray 61, .omap x.1.1 x.1.2.2]
def rsH (mb K : Nat) (nc : Bool) (all : List Rec) : HP := .ex fun x : MX => sepL [.pure (MP K nc x ∧ x.2.1.off = false ∧ ∃ L, MInv (pgM x.2.1) all L), .blk mb (Value.map (x.1) :: i64 (x.2.1).ar :: i64 (x.2.1).ac :: Value.bool (x.2.1).off :: ((x.2.1).pages.map str ++ (x.2.1).worn.map i64)).toArray 61, .omap x.1 x.2.2]
def dnH (mb K : Nat) (Q : List Rec → Prop) : HP := .ex fun x : MX => sepL [.pure (MP K false x ∧ x.2.1.off = true ∧ ∃ all, Q all ∧ ∃ L, MInv (pgM x.2.1) all L), .blk mb (Value.map (x.1) :: i64 (x.2.1).ar :: i64 (x.2.1).ac :: Value.bool (x.2.1).off :: ((x.2.1).pages.map str ++ (x.2.1).worn.map i64)).toArray 61, .omap x.1 x.2.2]
def jdH (jb mb : Nat) : HP := .ex fun x : St8 × JX × Int => sepL [.blk jb #[str (x.1).1, .bool (x.1).2, ptr mb 0, x.2.1.1, i64 x.2.1.2.2, i64 x.2.2, .bool true] 41]
theorem MP.up {K K' : Nat} {nc : Bool} {x : MX} (h : MP K nc x) (hk : K ≤ K') : MP K' nc x := ⟨wf_up h.1 hk, h.2.1, h.2.2.1, h.2.2.2⟩
section
variable {jb mb K : Nat} {nc : Bool} {all : List Rec} {L : List HP} {S : BSet} {w : World}
theorem up_open (h : (sepL (upH jb mb K nc all :: L)).sat S w) : ∃ x : MX × JX, UpP K nc all x ∧ (sepL (.blk jb #[str (safeOf all).1, .bool (safeOf all).2, ptr mb 0, x.2.1, i64 x.2.2.2, i64 (numN all), .bool false] 41 :: .own 68 3 (x.2.1) (x.2.2.1).length ((x.2.2.1).flatMap lfC) :: .blk mb (Value.map (x.1.1) :: i64 (x.1.2.1).ar :: i64 (x.1.2.1).ac :: Value.bool (x.1.2.1).off :: ((x.1.2.1).pages.map str ++ (x.1.2.1).worn.map i64)).toArray 61 :: .omap x.1.1 x.1.2.2 :: L)).sat S w := by
  obtain ⟨x, hx⟩ := ex_sat h
  exact ⟨x, pure_sat hx⟩
theorem up_shut (x : MX × JX) (hp : UpP K nc all x) (h : (sepL (.blk jb #[str (safeOf all).1, .bool (safeOf all).2, ptr mb 0, x.2.1, i64 x.2.2.2, i64 (numN all), .bool false] 41 :: .own 68 3 (x.2.1) (x.2.2.1).length ((x.2.2.1).flatMap lfC) :: .blk mb (Value.map (x.1.1) :: i64 (x.1.2.1).ar :: i64 (x.1.2.1).ac :: Value.bool (x.1.2.1).off :: ((x.1.2.1).pages.map str ++ (x.1.2.1).worn.map i64)).toArray 61 :: .omap x.1.1 x.1.2.2 :: L)).sat S w) : (sepL (upH jb mb K nc all :: L)).sat S w := sat_ex x (sat_pure hp h)
theorem rs_open (h : (sepL (rsH mb K nc all :: L)).sat S w) : ∃ x : MX, (MP K nc x ∧ x.2.1.off = false ∧ ∃ L, MInv (pgM x.2.1) all L) ∧ (sepL (.blk mb (Value.map (x.1) :: i64 (x.2.1).ar :: i64 (x.2.1).ac :: Value.bool (x.2.1).off :: ((x.2.1).pages.map str ++ (x.2.1).worn.map i64)).toArray 61 :: .omap x.1 x.2.2 :: L)).sat S w := by
  obtain ⟨x, hx⟩ := ex_sat h
  exact ⟨x, pure_sat hx⟩
theorem rs_shut (x : MX) (hp : MP K nc x ∧ x.2.1.off = false ∧ ∃ L, MInv (pgM x.2.1) all L) (h : (sepL (.blk mb (Value.map (x.1) :: i64 (x.2.1).ar :: i64 (x.2.1).ac :: Value.bool (x.2.1).off :: ((x.2.1).pages.map str ++ (x.2.1).worn.map i64)).toArray 61 :: .omap x.1 x.2.2 :: L)).sat S w) : (sepL (rsH mb K nc all :: L)).sat S w := sat_ex x (sat_pure hp h)
theorem dn_open {Q : List Rec → Prop} (h : (sepL (dnH mb K Q :: L)).sat S w) : ∃ x : MX, (MP K false x ∧ x.2.1.off = true ∧ ∃ all, Q all ∧ ∃ L, MInv (pgM x.2.1) all L) ∧ (sepL (.blk mb (Value.map (x.1) :: i64 (x.2.1).ar :: i64 (x.2.1).ac :: Value.bool (x.2.1).off :: ((x.2.1).pages.map str ++ (x.2.1).worn.map i64)).toArray 61 :: .omap x.1 x.2.2 :: L)).sat S w := by
  obtain ⟨x, hx⟩ := ex_sat h
  exact ⟨x, pure_sat hx⟩
theorem dn_shut {Q : List Rec → Prop} (x : MX) (hp : MP K false x ∧ x.2.1.off = true ∧ ∃ all, Q all ∧ ∃ L, MInv (pgM x.2.1) all L) (h : (sepL (.blk mb (Value.map (x.1) :: i64 (x.2.1).ar :: i64 (x.2.1).ac :: Value.bool (x.2.1).off :: ((x.2.1).pages.map str ++ (x.2.1).worn.map i64)).toArray 61 :: .omap x.1 x.2.2 :: L)).sat S w) : (sepL (dnH mb K Q :: L)).sat S w := sat_ex x (sat_pure hp h)
/-- A journal is left; its memory is at rest. -/
theorem rs_of_up (h : (sepL (upH jb mb K nc all :: L)).sat S w) : ∃ S', (sepL (rsH mb K nc all :: L)).sat S' w ∧ ∀ b, S' b → S b := by
  obtain ⟨x, ⟨hm, hJ⟩, hx⟩ := up_open h
  obtain ⟨hoff, _, _, _, L0, l, at', hL, _, hJI⟩ := hJ
  obtain ⟨S1, S2, hu, hd, h1, h2⟩ := hx
  obtain ⟨S3, S4, hu2, hd2, h3, h4⟩ := h2
  exact ⟨S4, rs_shut x.1 ⟨hm, hoff, _, hJI.mem⟩ h4, fun b hb => (hu b).2 (.inr ((hu2 b).2 (.inr hb)))⟩
end
theorem open8 (mb K : Nat) (nc : Bool) (all : List Rec) (w : World) (S : BSet) (hS : (sepL [rsH mb K nc all]).sat S w) (hK : K ≤ 1099511627774) :
    Tri Try.prog 11 #[ptr mb 0] w S fun u A => (∃ (jb : Nat) (rv : Value) (b : Nat), u = .tuple #[ptr jb 0, rv, i64 0] ∧ A = [upH jb mb (K + 2) nc all, .own 34 3 (rv) (foundN all b).length ((foundN all b).flatMap recC)] ∧ 1 ≤ b ∧ b ≤ all.length + 1 ∧ (b = 1 ∨ b + 16 ≤ all.length + 1)) ∨ (nc = false ∧ u = .tuple #[.pointer none, .slice none 0 0, i64 14] ∧ A = [dnH mb (K + 2) (fun x => x = all)]) := by
  obtain ⟨⟨o, m, mp⟩, ⟨⟨hm, hC, ho, hnc⟩, hoff, L, hI⟩, hx⟩ := rs_open hS
  refine (open_spec8 mb o m K mp all L w S hx hm hK hoff ho hC hI).post fun u A hR => ?_
  obtain ⟨e, m', mp', ⟨hw1, hC1, hmp1, hres⟩, hR⟩ := hR
  rcases hR with ⟨rfl, rfl, rfl⟩ | ⟨rfl, jb, rv, lv, L', a', b, rfl, rfl, hJ, hb1, hb2, hb3⟩
  · rcases hres with h | ⟨_, hoff1, hne, hI1⟩
    · cases h
    · refine ⟨_, .inr ⟨?_, rfl, rfl⟩, fun _ h => h.mono fun S w h => dn_shut (o, m', mp') ⟨⟨hw1, hC1, fun h => hmp1 (ho h), fun h => by cases h⟩, hoff1, all, rfl, hI1⟩ h⟩
      cases nc with
      | true => exact absurd (hnc rfl) hne
      | false => rfl
  · exact ⟨_, .inl ⟨jb, rv, b, rfl, rfl, hb1, hb2, hb3⟩, fun _ h => h.mono fun S w h => up_shut ((o, m', mp'), (lv, L', a')) ⟨⟨hw1, hC1, fun h => hmp1 (ho h), fun h => hmp1 (hnc h)⟩, hJ⟩ h⟩
theorem append8 (jb mb K : Nat) (nc : Bool) (all : List Rec) (r : Rec) (w : World) (S : BSet) (hS : (sepL [upH jb mb K nc all]).sat S w) (hK : K ≤ 1099511627773) (hfew : all.length + 2 < 4294967296) (hrl : r.text.length ≤ 140737488355328) :
    Tri Try.prog 13 #[ptr jb 0, i64 r.kind, str r.text] w S fun u A => (rightF r ≠ 0 ∧ u = i64 (rightF r) ∧ A = [upH jb mb (K + 3) nc all]) ∨ (rightF r = 0 ∧ u = i64 0 ∧ A = [upH jb mb (K + 3) nc (all ++ [r])]) ∨ (rightF r = 0 ∧ nc = false ∧ u = i64 14 ∧ A = [dnH mb (K + 3) (fun x => x = all ∨ x = all ++ [r]), jdH jb mb]) := by
  obtain ⟨⟨⟨o, m, mp⟩, ⟨lv, L, a⟩⟩, ⟨⟨hm, hC, ho, hnc⟩, hJ⟩, hx⟩ := up_open hS
  refine (append_spec jb mb o m K mp (safeOf all) lv L a (numN all) false all r w S hx hm hK ho hC hJ hfew hrl).post fun u A hR => ?_
  obtain ⟨e, m', mp', st', lv', L', a', nx', d', rfl, rfl, hw1, hC1, hmp1, hres⟩ := hR
  rcases hres with ⟨hr, rfl, rfl, rfl, hJ1⟩ | ⟨hr, rfl, hJ1⟩ | ⟨hr, rfl, hoff1, rfl, hne, hI1⟩
  · obtain ⟨j1, rfl, rfl, rfl, j5⟩ := id hJ1
    exact ⟨_, .inl ⟨hr, rfl, rfl⟩, fun _ h => h.mono fun S w h => up_shut ((o, m', mp'), (lv', L', a')) ⟨⟨hw1, hC1, ho, hnc⟩, hJ1⟩ h⟩
  · obtain ⟨j1, rfl, rfl, rfl, j5⟩ := id hJ1
    exact ⟨_, .inr (.inl ⟨hr, rfl, rfl⟩), fun _ h => h.mono fun S w h => up_shut ((o, m', mp'), (lv', L', a')) ⟨⟨hw1, hC1, fun h => hmp1 (ho h), fun h => hmp1 (hnc h)⟩, hJ1⟩ h⟩
  · refine ⟨_, .inr (.inr ⟨hr, ?_, rfl, rfl⟩), fun _ h => ?_⟩
    · cases nc with
      | true => exact absurd (hnc rfl) hne
      | false => rfl
    · have h2 : St w S [.blk mb (Value.map (o) :: i64 (m').ar :: i64 (m').ac :: Value.bool (m').off :: ((m').pages.map str ++ (m').worn.map i64)).toArray 61, .omap o mp', .blk jb #[str (st').1, .bool (st').2, ptr mb 0, lv', i64 a', i64 nx', .bool true] 41] _ := h.keep (by repeat constructor)
      have hQ : ∃ al, (al = all ∨ al = all ++ [r]) ∧ ∃ L, MInv (pgM m') al L := by
        rcases hI1 with h | h
        · exact ⟨all, .inl rfl, h⟩
        · exact ⟨all ++ [r], .inr rfl, h⟩
      exact h2.mono fun S w h => dn_shut (o, m', mp') ⟨⟨hw1, hC1, fun h => hmp1 (ho h), fun h => by cases h⟩, hoff1, hQ⟩ (star_mono h (fun _ h => h) fun _ h => star_mono h (fun _ h => h) fun _ h => sat_ex (f := fun x : St8 × JX × Int => [.blk jb #[str (x.1).1, .bool (x.1).2, ptr mb 0, x.2.1.1, i64 x.2.1.2.2, i64 x.2.2, .bool true] 41]) (L := []) (st', (lv', L', a'), nx') h)
theorem again_rest {m : Mem} {K : Nat} {all : List Rec} (hm : m.wf K) (hI : ∃ L, MInv (pgM m) all L) : MP K true (none, m.again, []) ∧ m.again.off = false ∧ ∃ L, MInv (pgM m.again) all L := ⟨⟨again_wf hm, CutM.nil, fun _ => rfl, fun _ => rfl⟩, rfl, hI⟩
theorem MInv.of {m : Mem} {all : List Rec} {st : St8} {L : List Lf} {a nx : Int} {d : Bool} (h : JOk m all st L a nx d) : ∃ L, MInv (pgM m) all L := by
  obtain ⟨_, _, _, _, L0, l, at', _, _, hJ⟩ := h
  exact ⟨_, hJ.mem⟩
/-- The power goes, and is back. -/
theorem again_up (jb mb K : Nat) (nc : Bool) (all : List Rec) (w : World) (S : BSet) (hS : (sepL [upH jb mb K nc all]).sat S w) :
    Tri Try.prog 14 #[ptr mb 0] w S fun u A => ∃ q, u = ptr q 0 ∧ A = [upH jb mb K nc all, rsH q K true all] := by
  obtain ⟨⟨⟨o, m, mp⟩, ⟨lv, L, a⟩⟩, ⟨⟨hm, hC, ho, hnc⟩, hJ⟩, hx⟩ := up_open hS
  refine (Tri.frame (A1 := [.blk mb (Value.map (o) :: i64 (m).ar :: i64 (m).ac :: Value.bool (m).off :: ((m).pages.map str ++ (m).worn.map i64)).toArray 61]) (by repeat constructor) hx fun S1 _ h1 => again_spec mb o m K w S1 h1 hm).post fun u B hR => ?_
  obtain ⟨B1, ⟨q, rfl, rfl⟩, rfl⟩ := hR
  refine ⟨_, ⟨q, rfl, rfl⟩, fun _ h => ?_⟩
  have h2 : St w S [.blk jb #[str (safeOf all).1, .bool (safeOf all).2, ptr mb 0, lv, i64 a, i64 (numN all), .bool false] 41, .own 68 3 (lv) (L).length ((L).flatMap lfC), .blk mb (Value.map (o) :: i64 (m).ar :: i64 (m).ac :: Value.bool (m).off :: ((m).pages.map str ++ (m).worn.map i64)).toArray 61, .omap o mp, .blk q (Value.map (none) :: i64 (m.again).ar :: i64 (m.again).ac :: Value.bool (m.again).off :: ((m.again).pages.map str ++ (m.again).worn.map i64)).toArray 61] _ := h.keep (by repeat constructor)
  exact h2.mono fun S w h => up_shut ((o, m, mp), (lv, L, a)) ⟨⟨hm, hC, ho, hnc⟩, hJ⟩ (star_mono h (fun _ h => h) fun _ h => star_mono h (fun _ h => h) fun _ h => star_mono h (fun _ h => h) fun _ h => star_mono h (fun _ h => h) fun _ h => rs_shut (none, m.again, []) (again_rest hm (MInv.of hJ)) (star_mono h (fun _ h => h) fun _ h => sat_pure (φ := ([] : List (Int × Value)) = []) rfl h))
theorem again_dn (mb K : Nat) (Q : List Rec → Prop) (w : World) (S : BSet) (hS : (sepL [dnH mb K Q]).sat S w) :
    Tri Try.prog 14 #[ptr mb 0] w S fun u A => ∃ q all, u = ptr q 0 ∧ Q all ∧ A = [rsH q K true all] := by
  obtain ⟨⟨o, m, mp⟩, ⟨⟨hm, hC, ho, hnc⟩, hoff, all, hQ, hI⟩, hx⟩ := dn_open hS
  refine (Tri.frame (A1 := [.blk mb (Value.map (o) :: i64 (m).ar :: i64 (m).ac :: Value.bool (m).off :: ((m).pages.map str ++ (m).worn.map i64)).toArray 61]) (by repeat constructor) hx fun S1 _ h1 => again_spec mb o m K w S1 h1 hm).post fun u B hR => ?_
  obtain ⟨B1, ⟨q, rfl, rfl⟩, rfl⟩ := hR
  refine ⟨_, ⟨q, all, rfl, hQ, rfl⟩, fun _ h => ?_⟩
  have h2 : St w S [.blk q (Value.map (none) :: i64 (m.again).ar :: i64 (m.again).ac :: Value.bool (m.again).off :: ((m.again).pages.map str ++ (m.again).worn.map i64)).toArray 61] _ := h.keep (by repeat constructor)
  exact h2.mono fun S w h => rs_shut (none, m.again, []) (again_rest hm hI) (star_mono h (fun _ h => h) fun _ h => sat_pure (φ := ([] : List (Int × Value)) = []) rfl h)
theorem next_up (jb mb K : Nat) (nc : Bool) (all : List Rec) (w : World) (S : BSet) (hS : (sepL [upH jb mb K nc all]).sat S w) :
    Tri Try.prog 12 #[ptr jb 0] w S fun u A => u = i64 (numN all) ∧ A = [upH jb mb K nc all] := by
  obtain ⟨⟨⟨o, m, mp⟩, ⟨lv, L, a⟩⟩, hp, hx⟩ := up_open hS
  refine (Tri.frame (A1 := [.blk jb #[str (safeOf all).1, .bool (safeOf all).2, ptr mb 0, lv, i64 a, i64 (numN all), .bool false] 41]) (by repeat constructor) hx fun S1 _ h1 => next_spec' jb mb (safeOf all) lv a (numN all) false w S1 h1).post fun u B hR => ?_
  obtain ⟨B1, ⟨rfl, rfl⟩, rfl⟩ := hR
  exact ⟨_, ⟨rfl, rfl⟩, fun _ h => h.mono fun S w h => up_shut ((o, m, mp), (lv, L, a)) hp h⟩
theorem safe_up (jb mb K : Nat) (nc : Bool) (all : List Rec) (w : World) (S : BSet) (hS : (sepL [upH jb mb K nc all]).sat S w) :
    Tri Try.prog 15 #[ptr jb 0] w S fun u A => u = .tuple #[str (safeOf all).1, .bool (safeOf all).2] ∧ A = [upH jb mb K nc all] := by
  obtain ⟨⟨⟨o, m, mp⟩, ⟨lv, L, a⟩⟩, hp, hx⟩ := up_open hS
  refine (Tri.frame (A1 := [.blk jb #[str (safeOf all).1, .bool (safeOf all).2, ptr mb 0, lv, i64 a, i64 (numN all), .bool false] 41]) (by repeat constructor) hx fun S1 _ h1 => safe_spec jb mb (safeOf all) lv a (numN all) false w S1 h1).post fun u B hR => ?_
  obtain ⟨B1, ⟨rfl, rfl⟩, rfl⟩ := hR
  exact ⟨_, ⟨rfl, rfl⟩, fun _ h => h.mono fun S w h => up_shut ((o, m, mp), (lv, L, a)) hp h⟩
theorem jdown_up (jb mb K : Nat) (nc : Bool) (all : List Rec) (w : World) (S : BSet) (hS : (sepL [upH jb mb K nc all]).sat S w) :
    Tri Try.prog 23 #[ptr jb 0] w S fun u A => u = .bool false ∧ A = [upH jb mb K nc all] := by
  obtain ⟨⟨⟨o, m, mp⟩, ⟨lv, L, a⟩⟩, hp, hx⟩ := up_open hS
  refine (Tri.frame (A1 := [.blk jb #[str (safeOf all).1, .bool (safeOf all).2, ptr mb 0, lv, i64 a, i64 (numN all), .bool false] 41, .blk mb (Value.map (o) :: i64 (m).ar :: i64 (m).ac :: Value.bool (m).off :: ((m).pages.map str ++ (m).worn.map i64)).toArray 61]) (by repeat constructor) hx fun S1 _ h1 => jdown_spec jb mb o m (safeOf all) lv a (numN all) false false w S1 h1 (by rw [hp.2.1]; rfl)).post fun u B hR => ?_
  obtain ⟨B1, ⟨rfl, rfl⟩, rfl⟩ := hR
  refine ⟨_, ⟨rfl, rfl⟩, fun _ h => ?_⟩
  have h2 : St w S [.blk jb #[str (safeOf all).1, .bool (safeOf all).2, ptr mb 0, lv, i64 a, i64 (numN all), .bool false] 41, .own 68 3 (lv) (L).length ((L).flatMap lfC), .blk mb (Value.map (o) :: i64 (m).ar :: i64 (m).ac :: Value.bool (m).off :: ((m).pages.map str ++ (m).worn.map i64)).toArray 61, .omap o mp] _ := h.keep (by repeat constructor)
  exact h2.mono fun S w h => up_shut ((o, m, mp), (lv, L, a)) hp h
theorem down_up (jb mb K : Nat) (nc : Bool) (all : List Rec) (w : World) (S : BSet) (hS : (sepL [upH jb mb K nc all]).sat S w) :
    Tri Try.prog 18 #[ptr mb 0] w S fun u A => u = .bool false ∧ A = [upH jb mb K nc all] := by
  obtain ⟨⟨⟨o, m, mp⟩, ⟨lv, L, a⟩⟩, hp, hx⟩ := up_open hS
  refine (Tri.frame (A1 := [.blk mb (Value.map (o) :: i64 (m).ar :: i64 (m).ac :: Value.bool (m).off :: ((m).pages.map str ++ (m).worn.map i64)).toArray 61]) (by repeat constructor) hx fun S1 _ h1 => down_spec mb o m false w S1 h1 hp.2.1).post fun u B hR => ?_
  obtain ⟨B1, ⟨rfl, rfl⟩, rfl⟩ := hR
  refine ⟨_, ⟨rfl, rfl⟩, fun _ h => ?_⟩
  have h2 : St w S [.blk jb #[str (safeOf all).1, .bool (safeOf all).2, ptr mb 0, lv, i64 a, i64 (numN all), .bool false] 41, .own 68 3 (lv) (L).length ((L).flatMap lfC), .blk mb (Value.map (o) :: i64 (m).ar :: i64 (m).ac :: Value.bool (m).off :: ((m).pages.map str ++ (m).worn.map i64)).toArray 61, .omap o mp] _ := h.keep (by repeat constructor)
  exact h2.mono fun S w h => up_shut ((o, m, mp), (lv, L, a)) hp h
theorem down_dn (mb K : Nat) (Q : List Rec → Prop) (w : World) (S : BSet) (hS : (sepL [dnH mb K Q]).sat S w) :
    Tri Try.prog 18 #[ptr mb 0] w S fun u A => u = .bool true ∧ A = [dnH mb K Q] := by
  obtain ⟨⟨o, m, mp⟩, hp, hx⟩ := dn_open hS
  refine (Tri.frame (A1 := [.blk mb (Value.map (o) :: i64 (m).ar :: i64 (m).ac :: Value.bool (m).off :: ((m).pages.map str ++ (m).worn.map i64)).toArray 61]) (by repeat constructor) hx fun S1 _ h1 => down_spec mb o m true w S1 h1 hp.2.1).post fun u B hR => ?_
  obtain ⟨B1, ⟨rfl, rfl⟩, rfl⟩ := hR
  exact ⟨_, ⟨rfl, rfl⟩, fun _ h => h.mono fun S w h => dn_shut (o, m, mp) hp h⟩
theorem new8 (w : World) (S : BSet) (hS : (sepL []).sat S w) : Tri Try.prog 10 #[] w S fun u A => ∃ b, u = ptr b 0 ∧ A = [rsH b 0 true []] := by
  refine (m7new_spec w S hS).post fun u B hR => ?_
  obtain ⟨b, rfl, rfl⟩ := hR
  refine ⟨_, ⟨b, rfl, rfl⟩, fun _ h => h.mono fun S w h => rs_shut (none, Mem.new, []) ⟨⟨new_wf, CutM.nil, fun _ => rfl, fun _ => rfl⟩, rfl, [], ?_⟩ (star_mono h (fun _ h => h) fun _ h => sat_pure (φ := ([] : List (Int × Value)) = []) rfl h)⟩
  have hpg : ∀ p, p < 24 → pgM Mem.new p = bareB 4096 := fun p hp => getD_rep 24 (bareB 4096) [] hp
  exact ⟨List.nodup_nil, fun l hl => (by cases hl), ⟨1, rfl, Nat.le_refl _, .inl rfl⟩, fun l hl => (by cases hl), fun p hp _ => (by rw [hpg p hp]; exact bare_read 4096), fun p hp => (by rw [hpg p hp]; exact bareB_length 4096), fun r hr => (by cases hr), by decide⟩
theorem arm_MP {K : Nat} {nc : Bool} {o : Option Nat} {m : Mem} {mp : List (Int × Value)} (h : MP K nc (o, m, mp)) (q : Nat) (cs : List Cut) (nc' : Bool) (hc : nc' = true → cs = []) : MP K nc' (some q, ({ m with ar := 0 } : Mem), armM cs) :=
  ⟨⟨Int.le_refl _, by show (0 : Int) ≤ K; omega, h.1.ac0, h.1.ac1, h.1.pl, h.1.wl, h.1.p, h.1.w⟩, CutM.arm cs, fun h => by (cases h), fun h => by (rw [hc h]; rfl)⟩
/-- Cuts are armed. -/
theorem arm_rs (mb K : Nat) (nc : Bool) (all : List Rec) (v : Value) (cs : List Cut) (nc' : Bool) (w : World) (S : BSet) (hS : (sepL [rsH mb K nc all]).sat S w) (hv : Sees w S (.row 2 v cs.length (cs.flatMap cutC))) (hn : cs.length ≤ 17592186044416) (hc : nc' = true → cs = []) :
    Tri Try.prog 17 #[ptr mb 0, v] w S fun u A => u = .tuple #[] ∧ A = [rsH mb K nc' all] := by
  obtain ⟨⟨o, m, mp⟩, ⟨hp, hoff, hI⟩, hx⟩ := rs_open hS
  refine (Tri.frame (A1 := [.blk mb (Value.map (o) :: i64 (m).ar :: i64 (m).ac :: Value.bool (m).off :: ((m).pages.map str ++ (m).worn.map i64)).toArray 61]) (by repeat constructor) hx fun S1 hsub h1 => arm_spec mb o m.ar m.ac m.off (m.pages.map str ++ m.worn.map i64) 61 v cs w S1 h1 (sees_sub hv hsub) hn).post fun u B hR => ?_
  obtain ⟨B1, ⟨q, rfl, rfl⟩, rfl⟩ := hR
  refine ⟨_, ⟨rfl, rfl⟩, fun _ h => ?_⟩
  have h2 : St w S [.blk mb (Value.map (some q) :: i64 (({ m with ar := 0 } : Mem)).ar :: i64 (({ m with ar := 0 } : Mem)).ac :: Value.bool (({ m with ar := 0 } : Mem)).off :: ((({ m with ar := 0 } : Mem)).pages.map str ++ (({ m with ar := 0 } : Mem)).worn.map i64)).toArray 61, .imap q (armM cs)] _ := h.keep (by repeat constructor)
  exact h2.mono fun S w h => rs_shut (some q, ({ m with ar := 0 } : Mem), armM cs) ⟨arm_MP hp q cs nc' hc, hoff, hI⟩ h
theorem arm_up (jb mb K : Nat) (nc : Bool) (all : List Rec) (v : Value) (cs : List Cut) (nc' : Bool) (w : World) (S : BSet) (hS : (sepL [upH jb mb K nc all]).sat S w) (hv : Sees w S (.row 2 v cs.length (cs.flatMap cutC))) (hn : cs.length ≤ 17592186044416) (hc : nc' = true → cs = []) :
    Tri Try.prog 17 #[ptr mb 0, v] w S fun u A => u = .tuple #[] ∧ A = [upH jb mb K nc' all] := by
  obtain ⟨⟨⟨o, m, mp⟩, ⟨lv, L, a⟩⟩, ⟨hp, hJ⟩, hx⟩ := up_open hS
  refine (Tri.frame (A1 := [.blk mb (Value.map (o) :: i64 (m).ar :: i64 (m).ac :: Value.bool (m).off :: ((m).pages.map str ++ (m).worn.map i64)).toArray 61]) (by repeat constructor) hx fun S1 hsub h1 => arm_spec mb o m.ar m.ac m.off (m.pages.map str ++ m.worn.map i64) 61 v cs w S1 h1 (sees_sub hv hsub) hn).post fun u B hR => ?_
  obtain ⟨B1, ⟨q, rfl, rfl⟩, rfl⟩ := hR
  refine ⟨_, ⟨rfl, rfl⟩, fun _ h => ?_⟩
  have h2 : St w S [.blk jb #[str (safeOf all).1, .bool (safeOf all).2, ptr mb 0, lv, i64 a, i64 (numN all), .bool false] 41, .own 68 3 (lv) (L).length ((L).flatMap lfC), .blk mb (Value.map (some q) :: i64 (({ m with ar := 0 } : Mem)).ar :: i64 (({ m with ar := 0 } : Mem)).ac :: Value.bool (({ m with ar := 0 } : Mem)).off :: ((({ m with ar := 0 } : Mem)).pages.map str ++ (({ m with ar := 0 } : Mem)).worn.map i64)).toArray 61, .imap q (armM cs)] _ := h.keep (by repeat constructor)
  exact h2.mono fun S w h => up_shut ((some q, ({ m with ar := 0 } : Mem), armM cs), (lv, L, a)) ⟨arm_MP hp q cs nc' hc, hJ⟩ h
end Go.Proofs.Ytknclcjmfgdphaa
namespace Go.BK
open Go.RowKit
section
variable {P : Program} {w0 : World} {S0 : BSet} {n : Nat} {F : Fr} {A : List HP}
/-- A type of ints, truths or texts, and a value of it. -/
def flatT3 : Option TypeDesc → Bool
  | some (.int _) => true
  | some .string => true
  | some .bool => true
  | _ => false
def flatV3 : Option TypeDesc → Option Value → Bool
  | some (.int _), some (.int _ _) => true
  | some .string, some (.string _) => true
  | some .bool, some (.bool _) => true
  | _, _ => false
theorem runPartF3 {w : World} {t : TypeId} {cs : Array Value} {off : Nat} {v : Value} (hu : flatT3 (P.underlying t) = true) (h : cs[off]? = some v) : (part t cs off).run P w = .ok v w := by
  revert hu
  cases hd : P.underlying t with
  | none => intro h; cases h
  | some d => cases d <;> intro hu <;> first | (simp [part, isAgg, run_underlying hd, h]; done) | cases hu
theorem runEqFlat3 {w : World} {t : TypeId} {v : Value} (d : Nat) (hu : flatV3 (P.underlying t) (some v) = true) : (Op.equalIn (d + 1) t v v).run P w = .ok true w := by
  revert hu
  cases hd : P.underlying t with
  | none => intro h; cases h
  | some e =>
    cases e <;> intro hu <;> first | (cases hu; done) | skip
    all_goals (cases v <;> first | (cases hu; done) | (simp [Op.equalIn, run_underlying hd]; done) | (simp [Op.equalIn, run_underlying hd]; rename_i s; show (s.data == s.data) = true; exact beq_self_eq_true _))
theorem flatV_T3 {o : Option TypeDesc} {v : Option Value} (h : flatV3 o v = true) : flatT3 o = true := by
  cases o with
  | none => cases h
  | some d => cases d <;> first | rfl | (cases v <;> cases h)
def isBoolT3 : Option TypeDesc → Nat
  | some .bool => 1
  | some .string => 2
  | _ => 0
def mixV3 : Nat → Option Value → Bool
  | 0, some (.int _ _) => true
  | 1, some (.bool _) => true
  | 2, some (.string _) => true
  | _, _ => false
/-- A struct of ints, truths and texts against itself: the fields' places, of which kind. -/
def mixB3 (P : Program) (t : TypeId) : Option (List (Nat × Nat)) := match P.underlying t with
  | some (.struct fs) => bif !P.stoodInHeld t && !P.eqGuardType P.depth t && fs.toList.all (fun f => f.name != "_" && flatT3 (P.underlying f.type)) then some (fs.toList.map fun f => (f.offset, isBoolT3 (P.underlying f.type))) else none
  | _ => none
theorem mix_flat3 {o : Option TypeDesc} {v : Option Value} (h : flatT3 o = true) (hv : mixV3 (isBoolT3 o) v = true) : flatV3 o v = true := by
  cases o with
  | none => cases h
  | some d =>
    cases d <;> first | (cases h; done) | skip
    all_goals (cases v with
      | none => cases hv
      | some v => cases v <;> first | rfl | cases hv)
theorem runEqMix3 {w : World} {t : TypeId} {fs : List Field} {l : List Value} (hu : P.underlying t = some (.struct fs.toArray)) (hst : P.stoodInHeld t = false) (hf : ∀ f ∈ fs, f.name ≠ "_" ∧ flatV3 (P.underlying f.type) l[f.offset]? = true) :
    (Op.equal t (.agg l.toArray) (.agg l.toArray)).run P w = .ok true w := by
  have key : ∀ d, (Op.equalIn (d + 2) t (.agg l.toArray) (.agg l.toArray)).run P w = .ok true w := fun d => by
    rw [Op.equalIn]
    simp only [Sem.run_bind, run_underlying hu, Result.andThen]
    have hp : Sem.run P program w = .ok P w := rfl
    simp only [hp, hst, Bool.false_eq_true, ↓reduceIte, List.forIn_toArray, Sem.run_bind]
    rw [runForYield]
    · rfl
    · intro f hf'
      obtain ⟨h1, h2⟩ := hf f hf'
      cases hv : l[f.offset]? with
      | none => rw [hv] at h2; revert h2; cases P.underlying f.type with
        | none => intro h; cases h
        | some d => cases d <;> intro h <;> cases h
      | some v =>
        rw [hv] at h2
        rw [if_pos h1]
        simp only [Sem.run_bind, runPartF3 (flatV_T3 h2) (show l.toArray[f.offset]? = some v by simpa using hv), Result.andThen, runEqFlat3 d h2]
        rfl
  exact key 9998
theorem mixB_get3 {t : TypeId} {ks : List (Nat × Nat)} {l : List Value} (hB : mixB3 P t = some ks) (hl : ks.all (fun k => mixV3 k.2 (getL l k.1)) = true) :
    P.eqGuardType P.depth t = false ∧ ∀ w, (Op.equal t (.agg l.toArray) (.agg l.toArray)).run P w = .ok true w := by
  unfold mixB3 at hB
  cases hu : P.underlying t with
  | none => simp [hu] at hB
  | some d =>
    cases d with
    | struct gs =>
      rw [hu] at hB
      dsimp only at hB
      cases hc : (!P.stoodInHeld t && !P.eqGuardType P.depth t && gs.toList.all (fun f => f.name != "_" && flatT3 (P.underlying f.type))) with
      | false => rw [hc] at hB; exact absurd hB (by simp)
      | true =>
        rw [hc, cond_true, Option.some.injEq] at hB
        subst hB
        rw [Bool.and_eq_true, Bool.and_eq_true] at hc
        obtain ⟨⟨h1, h2⟩, h3⟩ := hc
        refine ⟨by simpa using h2, fun w => runEqMix3 (fs := gs.toList) (by simpa using hu) (by simpa using h1) fun f hf => ?_⟩
        have h4 := List.all_eq_true.1 h3 f hf
        rw [Bool.and_eq_true] at h4
        have h5 := List.all_eq_true.1 hl _ (List.mem_map.2 ⟨f, hf, rfl⟩)
        rw [getL_eq] at h5
        exact ⟨by simpa using h4.1, mix_flat3 h4.2 h5⟩
    | _ => simp [hu] at hB
theorem EvW.eqMix3 {t ty : TypeId} {x y : Operand} {dd : Option Tmp} {T : TypeId} {pos : String} {af : Array Edge} {g : Option (Nat × Bool)} (ks : List (Nat × Nat)) {l : List Value} (hx : ev F x = some (.agg l.toArray)) (hy : ev F y = some (.agg l.toArray)) (hB : mixB3 P t = some ks) (hl : ks.all (fun k => mixV3 k.2 (getL l k.1)) = true) : EvW P w0 S0 n F A ⟨dd, .binOp .eql t x y ty, T, pos, af, g⟩ (.bool true) :=
  .pure fun a' w ha _ => by
    obtain ⟨h1, h2⟩ := mixB_get3 hB hl
    simp [execOp, ha.eval hx, ha.eval hy, eqGuard, h1, binOp, h2]
theorem EvW.neMix3 {t ty : TypeId} {x y : Operand} {dd : Option Tmp} {T : TypeId} {pos : String} {af : Array Edge} {g : Option (Nat × Bool)} (ks : List (Nat × Nat)) {l : List Value} (hx : ev F x = some (.agg l.toArray)) (hy : ev F y = some (.agg l.toArray)) (hB : mixB3 P t = some ks) (hl : ks.all (fun k => mixV3 k.2 (getL l k.1)) = true) : EvW P w0 S0 n F A ⟨dd, .binOp .neq t x y ty, T, pos, af, g⟩ (.bool false) :=
  .pure fun a' w ha _ => by
    obtain ⟨h1, h2⟩ := mixB_get3 hB hl
    simp [execOp, ha.eval hx, ha.eval hy, eqGuard, h1, binOp, h2]
end
end Go.BK
namespace Go.Proofs.Ytknclcjmfgdphaa
open Go.RowKit Go.BK
theorem open8n (mb K : Nat) (all : List Rec) (w : World) (S : BSet) (hS : (sepL [rsH mb K true all]).sat S w) (hK : K ≤ 1099511627774) :
    Tri Try.prog 11 #[ptr mb 0] w S fun u A => ∃ (jb : Nat) (rv : Value) (b : Nat), u = .tuple #[ptr jb 0, rv, i64 0] ∧ A = [upH jb mb (K + 2) true all, .own 34 3 (rv) (foundN all b).length ((foundN all b).flatMap recC)] ∧ 1 ≤ b ∧ b ≤ all.length + 1 ∧ (b = 1 ∨ b + 16 ≤ all.length + 1) :=
  (open8 mb K true all w S hS hK).mono fun _ _ h => h.elim id fun h => absurd h.1 (by decide)
theorem append8n (jb mb K : Nat) (all : List Rec) (r : Rec) (w : World) (S : BSet) (hS : (sepL [upH jb mb K true all]).sat S w) (hK : K ≤ 1099511627773) (hfew : all.length + 2 < 4294967296) (hr : RecOk r) :
    Tri Try.prog 13 #[ptr jb 0, i64 r.kind, str r.text] w S fun u A => u = i64 0 ∧ A = [upH jb mb (K + 3) true (all ++ [r])] :=
  (append8 jb mb K true all r w S hS hK hfew (Nat.le_trans hr.2 (by decide))).mono fun _ _ h => by
    have h0 : rightF r = 0 := by unfold rightF; rw [if_neg (by have := hr.1; omega), if_neg (by have := hr.2; omega)]
    rcases h with ⟨h1, _⟩ | ⟨_, h2, h3⟩ | ⟨_, h2, _⟩
    · exact absurd h0 h1
    · exact ⟨h2, h3⟩
    · cases h2
theorem found_len (all : List Rec) (b : Nat) (hb : 1 ≤ b) : (foundN all b).length = all.length + 1 - b := by
  unfold foundN; rw [numd_len, List.length_drop]; omega
set_option maxHeartbeats 4000000 in
set_option maxRecDepth 4000 in
theorem lives8_spec  (w : World) (S : BSet) (hS : (sepL []).sat S w)  :
    Tri Try.prog 9 #[] w S fun u A => u = .bool true ∧ A = [] := by
  refine Tri.enter (l := []) Try.func9 rfl Try.ntmps9 rfl [] (subA rfl) hS ?_
  have ra : RecOk ⟨1, [97]⟩ := ⟨.inl rfl, by decide⟩
  have rb : RecOk ⟨2, [98]⟩ := ⟨.inr rfl, by decide⟩
  repeat first
    | (apply WL.q; exact rfl; exact rfl; exact rfl; (first | (apply EvW.assign; exact rfl)))
    | refine WC.seq ?_ | refine WC.region ?_ | refine WL.nil ?_ | refine WE.next ?_
  try refine WL.wanted rfl rfl rfl ?_
  apply WL.callA ([])
  · exact rfl
  · exact rfl
  · exact fun w => Try.call10 _ w
  · (focus ((repeat constructor); done))
  · exact fun w1 S1 hS1 hs1 ho1 => new8 w1 S1 hS1
  rintro _ _ ⟨mb, rfl, rfl⟩
  first | refine WL.app4 ?_ | refine WL.app3 ?_ | refine WL.app2 ?_ | refine WL.app1 ?_ | refine WL.app0 ?_ | skip
  repeat first
    | (apply WL.q; exact rfl; exact rfl; exact rfl; (first | (apply EvW.move; exact rfl) | (apply EvW.assign; exact rfl)))
    | refine WC.seq ?_ | refine WC.region ?_ | refine WL.nil ?_ | refine WE.next ?_
  try refine WL.wanted rfl rfl rfl ?_
  apply WL.callA ([rsH mb 0 true []])
  · exact rfl
  · exact rfl
  · exact fun w => Try.call11 _ w
  · (focus ((repeat constructor); done))
  · exact fun w1 S1 hS1 hs1 ho1 => open8n mb 0 [] w1 S1 hS1 (by decide)
  rintro _ _ ⟨jb, rv, b, rfl, rfl, hb1, hb2, hb3⟩
  first | refine WL.app4 ?_ | refine WL.app3 ?_ | refine WL.app2 ?_ | refine WL.app1 ?_ | refine WL.app0 ?_ | skip
  have hfl := found_len [] b hb1
  have hf0 : ((foundN [] b).length : Int) = 0 := by simp only [List.length_nil] at hfl hb2; omega
  repeat first
    | (apply WL.q; exact rfl; exact rfl; exact rfl; (first | (apply EvW.move; exact rfl) | (apply EvW.assign; exact rfl) | (apply EvW.extract; exact rfl; exact rfl) | (apply EvW.cmpF; exact rfl; exact rfl; exact rfl; omega) | (apply EvW.pickF; exact rfl; exact rfl) | (apply EvW.peqN; exact rfl; exact rfl; exact UndC.eq) | (apply EvW.lenOwn; exact rfl; exact UndC.eq; (focus ((repeat constructor); done)))))
    | refine WC.seq ?_ | refine WC.region ?_ | refine WL.nil ?_ | refine WE.next ?_ | refine WL.wanted rfl rfl rfl ?_
  try refine WL.wanted rfl rfl rfl ?_
  apply WL.callA ([upH jb mb (0 + 2) true []])
  · exact rfl
  · exact rfl
  · exact fun w => Try.call13 _ w
  · (focus ((repeat constructor); done))
  · exact fun w1 S1 hS1 hs1 ho1 => append8n jb mb (0 + 2) [] ⟨1, [97]⟩ w1 S1 hS1 (by decide) (by decide) ra
  rintro _ _ ⟨rfl, rfl⟩
  first | refine WL.app4 ?_ | refine WL.app3 ?_ | refine WL.app2 ?_ | refine WL.app1 ?_ | refine WL.app0 ?_ | skip
  repeat first
    | (apply WL.q; exact rfl; exact rfl; exact rfl; (first | (apply EvW.move; exact rfl) | (apply EvW.cmpF; exact rfl; exact rfl; exact rfl; omega) | (apply EvW.pickF; exact rfl; exact rfl)))
    | refine WC.seq ?_ | refine WC.region ?_ | refine WL.nil ?_ | refine WE.next ?_ | refine WC.skip ?_ | refine WC.condF rfl ?_ | refine WL.wanted rfl rfl rfl ?_
  try refine WL.wanted rfl rfl rfl ?_
  apply WL.callA ([upH jb mb (0 + 2 + 3) true [⟨1, [97]⟩]])
  · exact rfl
  · exact rfl
  · exact fun w => Try.call14 _ w
  · (focus ((repeat constructor); done))
  · exact fun w1 S1 hS1 hs1 ho1 => again_up jb mb (0 + 2 + 3) true [⟨1, [97]⟩] w1 S1 hS1
  rintro _ _ ⟨q, rfl, rfl⟩
  first | refine WL.app4 ?_ | refine WL.app3 ?_ | refine WL.app2 ?_ | refine WL.app1 ?_ | refine WL.app0 ?_ | skip
  repeat first
    | (apply WL.q; exact rfl; exact rfl; exact rfl; (first | (apply EvW.move; exact rfl) | (apply EvW.assign; exact rfl) | (apply EvW.peqN; exact rfl; exact rfl; exact UndC.eq)))
    | refine WC.seq ?_ | refine WC.region ?_ | refine WL.nil ?_ | refine WE.next ?_ | refine WL.wanted rfl rfl rfl ?_
  try refine WL.wanted rfl rfl rfl ?_
  apply WL.callA ([upH jb mb (0 + 2 + 3) true [⟨1, [97]⟩]])
  · exact rfl
  · exact rfl
  · exact fun w => Try.call13 _ w
  · (focus ((repeat constructor); done))
  · exact fun w1 S1 hS1 hs1 ho1 => append8n jb mb (0 + 2 + 3) [⟨1, [97]⟩] ⟨2, [98]⟩ w1 S1 hS1 (by decide) (by decide) rb
  rintro _ _ ⟨rfl, rfl⟩
  first | refine WL.app4 ?_ | refine WL.app3 ?_ | refine WL.app2 ?_ | refine WL.app1 ?_ | refine WL.app0 ?_ | skip
  repeat first
    | (apply WL.q; exact rfl; exact rfl; exact rfl; (first | (apply EvW.move; exact rfl) | (apply EvW.cmpF; exact rfl; exact rfl; exact rfl; omega) | (apply EvW.pickF; exact rfl; exact rfl)))
    | refine WC.seq ?_ | refine WC.region ?_ | refine WL.nil ?_ | refine WE.next ?_ | refine WC.skip ?_ | refine WC.condF rfl ?_ | refine WL.wanted rfl rfl rfl ?_
  try refine WL.wanted rfl rfl rfl ?_
  apply WL.callA ([upH jb mb (0 + 2 + 3 + 3) true [⟨1, [97]⟩, ⟨2, [98]⟩]])
  · exact rfl
  · exact rfl
  · exact fun w => Try.call14 _ w
  · (focus ((repeat constructor); done))
  · exact fun w1 S1 hS1 hs1 ho1 => again_up jb mb (0 + 2 + 3 + 3) true [⟨1, [97]⟩, ⟨2, [98]⟩] w1 S1 hS1
  rintro _ _ ⟨q2, rfl, rfl⟩
  first | refine WL.app4 ?_ | refine WL.app3 ?_ | refine WL.app2 ?_ | refine WL.app1 ?_ | refine WL.app0 ?_ | skip
  skip
  try refine WL.wanted rfl rfl rfl ?_
  apply WL.callA ([rsH q2 (0 + 2 + 3 + 3) true [⟨1, [97]⟩, ⟨2, [98]⟩]])
  · exact rfl
  · exact rfl
  · exact fun w => Try.call11 _ w
  · (focus ((repeat constructor); done))
  · exact fun w1 S1 hS1 hs1 ho1 => open8n q2 (0 + 2 + 3 + 3) [⟨1, [97]⟩, ⟨2, [98]⟩] w1 S1 hS1 (by decide)
  rintro _ _ ⟨kb, lv, b2, rfl, rfl, hc1, hc2, hc3⟩
  first | refine WL.app4 ?_ | refine WL.app3 ?_ | refine WL.app2 ?_ | refine WL.app1 ?_ | refine WL.app0 ?_ | skip
  have hb2' : b2 = 1 := by simp only [List.length_cons, List.length_nil] at hc2 hc3; omega
  subst hb2'
  rw [show foundN [⟨1, [97]⟩, ⟨2, [98]⟩] 1 = [⟨1, 1, [97]⟩, ⟨2, 2, [98]⟩] from rfl]
  repeat first
    | (apply WL.q; exact rfl; exact rfl; exact rfl; (first | (apply EvW.move; exact rfl) | (apply EvW.assign; exact rfl) | (apply EvW.nilPtr; exact rfl) | (apply EvW.fieldAddr0; exact rfl; exact FldC.eq) | (apply EvW.extract; exact rfl; exact rfl) | (apply EvW.cmpF; exact rfl; exact rfl; exact rfl; omega) | (apply EvW.cmp; exact rfl; exact rfl; exact rfl) | (apply EvW.pickF; exact rfl; exact rfl) | (apply EvW.peqN; exact rfl; exact rfl; exact UndC.eq) | (apply EvW.lenOwn; exact rfl; exact UndC.eq; (focus ((repeat constructor); done)))))
    | refine WC.seq ?_ | refine WC.region ?_ | refine WL.nil ?_ | refine WE.next ?_ | refine WC.skip ?_ | refine WC.condF rfl ?_ | refine WL.wanted rfl rfl rfl ?_
  try refine WL.wanted rfl rfl rfl ?_
  apply WL.callA ([upH kb q2 (0 + 2 + 3 + 3 + 2) true [⟨1, [97]⟩, ⟨2, [98]⟩]])
  · exact rfl
  · exact rfl
  · exact fun w => Try.call15 _ w
  · (focus ((repeat constructor); done))
  · exact fun w1 S1 hS1 hs1 ho1 => safe_up kb q2 (0 + 2 + 3 + 3 + 2) true [⟨1, [97]⟩, ⟨2, [98]⟩] w1 S1 hS1
  rintro _ _ ⟨rfl, rfl⟩
  first | refine WL.app4 ?_ | refine WL.app3 ?_ | refine WL.app2 ?_ | refine WL.app1 ?_ | refine WL.app0 ?_ | skip
  rw [show safeOf [⟨1, [97]⟩, ⟨2, [98]⟩] = ([97], true) from rfl]
  dsimp only
  repeat first
    | (apply WL.q; exact rfl; exact rfl; exact rfl; (first | (apply EvW.move; exact rfl) | (apply EvW.assign; exact rfl) | (apply EvW.extract; exact rfl; exact rfl)))
    | refine WC.seq ?_ | refine WC.region ?_ | refine WL.nil ?_ | refine WE.next ?_
  try refine WL.wanted rfl rfl rfl ?_
  apply WL.callA ([rsH q (0 + 2 + 3) true [⟨1, [97]⟩]])
  · exact rfl
  · exact rfl
  · exact fun w => Try.call11 _ w
  · (focus ((repeat constructor); done))
  · exact fun w1 S1 hS1 hs1 ho1 => open8n q (0 + 2 + 3) [⟨1, [97]⟩] w1 S1 hS1 (by decide)
  rintro _ _ ⟨xb, ov, b3, rfl, rfl, hd1, hd2, hd3⟩
  first | refine WL.app4 ?_ | refine WL.app3 ?_ | refine WL.app2 ?_ | refine WL.app1 ?_ | refine WL.app0 ?_ | skip
  have hb3' : b3 = 1 := by simp only [List.length_cons, List.length_nil] at hd2 hd3; omega
  subst hb3'
  rw [show foundN [⟨1, [97]⟩] 1 = [⟨1, 1, [97]⟩] from rfl]
  have h2l : (0 : Int) < (([⟨1, 1, [97]⟩, ⟨2, 2, [98]⟩] : List RecN).length : Int) := by decide
  have h1l : (([⟨1, 1, [97]⟩] : List RecN).length : Int) = 1 := rfl
  repeat first
    | (apply WL.q; exact rfl; exact rfl; exact rfl; (first | (apply EvW.move; exact rfl) | (apply EvW.assign; exact rfl) | (apply EvW.extract; exact rfl; exact rfl) | (apply EvW.idxOwn; exact rfl; exact rfl; exact UndC.eq; exact SzC.eq; (focus ((repeat constructor); done)); omega; omega)))
    | refine WC.seq ?_ | refine WC.region ?_ | refine WL.nil ?_ | refine WE.next ?_
  try refine WL.wanted rfl rfl rfl ?_
  (apply WL.q; exact rfl; exact rfl; exact rfl; (apply EvW.ldElemOwn (xs := ([⟨1, 1, [97]⟩, ⟨2, 2, [98]⟩] : List RecN)) (z := (default : RecN)) (f := recC); exact rfl; exact AggC.eq; exact SzC.eq; exact rfl; exact fun _ => rfl; (focus ((repeat constructor); done)); omega))
  repeat first
    | (apply WL.q; exact rfl; exact rfl; exact rfl; (first | (apply EvW.build; exact PlC.eq; exact ZvC.eq; exact rfl; exact rfl; (focus ((repeat (first | exact Fills.nil | (apply Fills.cons; exact rfl; (first | assumption | exact rfl); exact rfl) | exact SetMany.nil | apply SetMany.cons | apply SetMany.succ)); done)))))
  (apply WL.q; exact rfl; exact rfl; exact rfl; (apply EvW.eqMix3 [(0, 0), (1, 0), (2, 2)] (l := [i64 1, i64 1, str [97]]); exact rfl; exact rfl; kernel_rfl; exact rfl))
  repeat first
    | (apply WL.q; exact rfl; exact rfl; exact rfl; (first | (apply EvW.move; exact rfl) | (apply EvW.pickT; exact rfl; exact rfl) | (apply EvW.seqS; exact rfl; exact rfl)))
    | refine WL.wanted rfl rfl rfl ?_
  try refine WL.wanted rfl rfl rfl ?_
  apply WL.callA ([upH kb q2 (0 + 2 + 3 + 3 + 2) true [⟨1, [97]⟩, ⟨2, [98]⟩]])
  · exact rfl
  · exact rfl
  · exact fun w => Try.call12 _ w
  · (focus ((repeat constructor); done))
  · exact fun w1 S1 hS1 hs1 ho1 => next_up kb q2 (0 + 2 + 3 + 3 + 2) true [⟨1, [97]⟩, ⟨2, [98]⟩] w1 S1 hS1
  rintro _ _ ⟨rfl, rfl⟩
  first | refine WL.app4 ?_ | refine WL.app3 ?_ | refine WL.app2 ?_ | refine WL.app1 ?_ | refine WL.app0 ?_ | skip
  rw [show numN [⟨1, [97]⟩, ⟨2, [98]⟩] = 3 from rfl]
  repeat first
    | (apply WL.q; exact rfl; exact rfl; exact rfl; (first | (apply EvW.move; exact rfl) | (apply EvW.cmpT; exact rfl; exact rfl; exact rfl; omega) | (apply EvW.pickT; exact rfl; exact rfl) | (apply EvW.lenOwn; exact rfl; exact UndC.eq; (focus ((repeat constructor); done)))))
    | refine WL.wanted rfl rfl rfl ?_
  try refine WL.wanted rfl rfl rfl ?_
  apply WL.callA ([upH xb q (0 + 2 + 3 + 2) true [⟨1, [97]⟩]])
  · exact rfl
  · exact rfl
  · exact fun w => Try.call12 _ w
  · (focus ((repeat constructor); done))
  · exact fun w1 S1 hS1 hs1 ho1 => next_up xb q (0 + 2 + 3 + 2) true [⟨1, [97]⟩] w1 S1 hS1
  rintro _ _ ⟨rfl, rfl⟩
  first | refine WL.app4 ?_ | refine WL.app3 ?_ | refine WL.app2 ?_ | refine WL.app1 ?_ | refine WL.app0 ?_ | skip
  rw [show numN [⟨1, [97]⟩] = 2 from rfl]
  repeat first
    | (apply WL.q; exact rfl; exact rfl; exact rfl; (first | (apply EvW.assign; exact rfl) | (apply EvW.cmpT; exact rfl; exact rfl; exact rfl; omega) | (apply EvW.pickT; exact rfl; exact rfl)))
    | refine WL.nil ?_ | refine WE.next ?_ | refine WC.ret ?_ | refine WL.wanted rfl rfl rfl ?_
  refine WE.keep (xs := []) (by repeat constructor) ?_
  refine WE.ret1 rfl rfl ?_
  exact ⟨rfl, rfl⟩
end Go.Proofs.Ytknclcjmfgdphaa
namespace Go.BK
open Go.RowKit
end Go.BK
namespace Go.Proofs.Ytknclcjmfgdphaa
open Go.RowKit Go.BK
theorem up_le {jb mb K K' : Nat} {nc : Bool} {all : List Rec} {L : List HP} {S : BSet} {w : World} (h : (sepL (upH jb mb K nc all :: L)).sat S w) (hk : K ≤ K') : (sepL (upH jb mb K' nc all :: L)).sat S w := by
  obtain ⟨x, ⟨hm, hJ⟩, hx⟩ := up_open h
  exact up_shut x ⟨hm.up hk, hJ⟩ hx
end Go.Proofs.Ytknclcjmfgdphaa
namespace Go.Proofs.Ytknclcjmfgdphaa
open Go.RowKit Go.BK
theorem MP.weak {K : Nat} {nc : Bool} {x : MX} (h : MP K nc x) : MP K false x := ⟨h.1, h.2.1, h.2.2.1, fun h => by cases h⟩
end Go.Proofs.Ytknclcjmfgdphaa
namespace Go.Proofs.Ytknclcjmfgdphaa
open Go.RowKit Go.BK
theorem jright_spec (r : Rec) (w : World) (S : BSet) (hS : (sepL []).sat S w) (hl : r.text.length ≤ 140737488355328) :
    Tri Try.prog 51 #[i64 r.kind, str r.text] w S fun u A => u = i64 (rightF r) ∧ A = [] := by
  refine Tri.enter (l := [i64 r.kind, str r.text]) Try.func51 rfl Try.ntmps51 rfl [(0, i64 r.kind), (1, str r.text)] (subA rfl) hS ?_
  by_cases h1 : r.kind = 1
  · have hk : ¬ (r.kind ≠ 1 ∧ r.kind ≠ 2) := fun h => h.1 h1
    unfold rightF
    rw [if_neg hk, h1]
    by_cases h3 : (r.text.length : Int) > 1000
    · rw [if_pos (by omega)]
      repeat first
        | (apply WL.q; exact rfl; exact rfl; exact rfl; (first | (apply EvW.move; exact rfl) | (apply EvW.assign; exact rfl) | (apply EvW.lenS; exact rfl; exact UndC.eq) | (apply EvW.cmpT; exact rfl; exact rfl; exact rfl; omega) | (apply EvW.cmpF; exact rfl; exact rfl; exact rfl; omega) | (apply EvW.pickF; exact rfl; exact rfl)))
        | refine WC.seq ?_ | refine WC.region ?_ | refine WL.nil ?_ | refine WE.next ?_ | refine WC.skip ?_ | refine WC.condT rfl ?_ | refine WC.condF rfl ?_ | refine WC.ret ?_ | refine WE.passRet ?_ | refine WL.unwanted rfl rfl rfl rfl ?_
      refine WE.ret1 rfl rfl ?_
      exact ⟨rfl, rfl⟩
    · rw [if_neg (by omega)]
      repeat first
        | (apply WL.q; exact rfl; exact rfl; exact rfl; (first | (apply EvW.move; exact rfl) | (apply EvW.assign; exact rfl) | (apply EvW.lenS; exact rfl; exact UndC.eq) | (apply EvW.cmpF; exact rfl; exact rfl; exact rfl; omega) | (apply EvW.pickF; exact rfl; exact rfl)))
        | refine WC.seq ?_ | refine WC.region ?_ | refine WL.nil ?_ | refine WE.next ?_ | refine WC.skip ?_ | refine WC.condF rfl ?_ | refine WC.ret ?_ | refine WL.unwanted rfl rfl rfl rfl ?_
      refine WE.ret1 rfl rfl ?_
      exact ⟨rfl, rfl⟩
  by_cases h2 : r.kind = 2
  · have hk : ¬ (r.kind ≠ 1 ∧ r.kind ≠ 2) := fun h => h.2 h2
    unfold rightF
    rw [if_neg hk, h2]
    by_cases h3 : (r.text.length : Int) > 1000
    · rw [if_pos (by omega)]
      repeat first
        | (apply WL.q; exact rfl; exact rfl; exact rfl; (first | (apply EvW.move; exact rfl) | (apply EvW.assign; exact rfl) | (apply EvW.lenS; exact rfl; exact UndC.eq) | (apply EvW.cmpT; exact rfl; exact rfl; exact rfl; omega) | (apply EvW.cmpF; exact rfl; exact rfl; exact rfl; omega) | (apply EvW.pickT; exact rfl; exact rfl)))
        | refine WC.seq ?_ | refine WC.region ?_ | refine WL.nil ?_ | refine WE.next ?_ | refine WC.skip ?_ | refine WC.condT rfl ?_ | refine WC.condF rfl ?_ | refine WC.ret ?_ | refine WE.passRet ?_ | refine WL.wanted rfl rfl rfl ?_
      refine WE.ret1 rfl rfl ?_
      exact ⟨rfl, rfl⟩
    · rw [if_neg (by omega)]
      repeat first
        | (apply WL.q; exact rfl; exact rfl; exact rfl; (first | (apply EvW.move; exact rfl) | (apply EvW.assign; exact rfl) | (apply EvW.lenS; exact rfl; exact UndC.eq) | (apply EvW.cmpT; exact rfl; exact rfl; exact rfl; omega) | (apply EvW.cmpF; exact rfl; exact rfl; exact rfl; omega) | (apply EvW.pickT; exact rfl; exact rfl)))
        | refine WC.seq ?_ | refine WC.region ?_ | refine WL.nil ?_ | refine WE.next ?_ | refine WC.skip ?_ | refine WC.condF rfl ?_ | refine WC.ret ?_ | refine WL.wanted rfl rfl rfl ?_
      refine WE.ret1 rfl rfl ?_
      exact ⟨rfl, rfl⟩
  unfold rightF
  rw [if_pos ⟨h1, h2⟩]
  repeat first
    | (apply WL.q; exact rfl; exact rfl; exact rfl; (first | (apply EvW.move; exact rfl) | (apply EvW.assign; exact rfl) | (apply EvW.cmpT; exact rfl; exact rfl; exact rfl; omega) | (apply EvW.pickT; exact rfl; exact rfl)))
    | refine WC.seq ?_ | refine WC.region ?_ | refine WL.nil ?_ | refine WE.next ?_ | refine WC.condT rfl ?_ | refine WC.ret ?_ | refine WE.passRet ?_ | refine WL.wanted rfl rfl rfl ?_
  refine WE.ret1 rfl rfl ?_
  exact ⟨rfl, rfl⟩
theorem safe_take {l : List Rec} {k : Nat} (hk : k < l.length) : safeOf (l.take (k + 1)) = noteF (safeOf (l.take k)) (l.getD k default) := by
  rw [rec_take hk, safeOf_append]; rfl
set_option maxHeartbeats 1000000 in
theorem rsafe_spec (v : Value) (l : List Rec) (w : World) (S : BSet) (hS : (sepL []).sat S w) (hv : Sees w S (.row 3 v l.length ((numd 1 l).flatMap recC))) (hl : l.length ≤ 140737488355328) :
    Tri Try.prog 29 #[v] w S fun u A => u = .tuple #[str (safeOf l).1, .bool (safeOf l).2] ∧ A = [] := by
  refine Tri.enter (l := [v]) Try.func29 rfl Try.ntmps29 rfl [(0, v)] (subA rfl) hS ?_
  have hnl := numd_len l 1
  repeat first
    | (apply WL.q; exact rfl; exact rfl; exact rfl; (first | (apply EvW.move; exact rfl) | (apply EvW.assign; exact rfl) | (apply EvW.arN; exact rfl; exact rfl; exact rfl; refine i64_in ?_ ?_ <;> omega) | (apply EvW.lenRow; exact rfl; exact UndC.eq; assumption)))
    | refine WC.seq ?_ | refine WC.region ?_ | refine WL.nil ?_ | refine WE.next ?_ | refine WC.block ?_
  refine WC.loopK (σ := Nat) [0] (fun s => [(4, i64 ((s : Int) - 1))]) (fun s => []) (fun s => s ≤ l.length ∧ safeOf (l.take s) = safeOf l) (fun s => s) l.length (by (focus ((repeat (first | exact Pick.nil | (apply Pick.cons; exact rfl))); done))) (by (focus ((repeat (first | exact trivial | (refine ⟨rfl, ?_⟩))); done))) (fun _ h => h.keep (by repeat constructor)) ⟨Nat.le_refl _, by (rw [List.take_length])⟩ (fun s hs => ?_)
  obtain ⟨i, rfl⟩ : ∃ q, q = s := ⟨s, rfl⟩
  simp only [List.cons_append, List.nil_append] at hs ⊢
  obtain ⟨hi, hsf⟩ := hs
  by_cases h0 : (i : Int) - 1 ≥ 0
  · obtain ⟨k, rfl⟩ : ∃ k, i = k + 1 := ⟨i - 1, by omega⟩
    have hk : k < l.length := hi
    have hng := numd_get l 1 k hk
    rw [safe_take hk] at hsf
    obtain ⟨r, hr⟩ : ∃ r, l.getD k default = r := ⟨_, rfl⟩
    rw [hr] at hng hsf
    rw [show (((k + 1 : Nat) : Int) - 1) = (k : Int) by omega] at h0 ⊢
    have hng' : (numd 1 l).getD ((k : Nat) : Int).toNat default = ⟨1 + k, r.kind, r.text⟩ := hng
    by_cases h1 : r.kind = 1
    · have h1' : ((numd 1 l).getD ((k : Nat) : Int).toNat default).kind = 1 := by rw [hng']; exact h1
      have e : safeOf l = (r.text, true) := by
        rw [← hsf]; unfold noteF; rw [if_pos h1]
      repeat first
        | (apply WL.q; exact rfl; exact rfl; exact rfl; (first | (apply EvW.move; exact rfl) | (apply EvW.assign; exact rfl) | (apply EvW.ldFld; exact rfl; exact ScalC.eq; assumption; exact fun _ => rfl; omega; exact rfl; exact inferInstance) | (apply EvW.cmpT; exact rfl; exact rfl; exact rfl; omega) | (apply EvW.idxRow; exact rfl; exact rfl; exact UndC.eq; exact SzC.eq; assumption; omega; omega) | (apply EvW.fldRow; exact rfl; exact FldC.eq; assumption; omega)))
        | refine WC.seq ?_ | refine WC.region ?_ | refine WL.nil ?_ | refine WE.next ?_ | refine WC.block ?_ | refine WC.skip ?_ | refine WC.condT rfl ?_ | refine WC.ret ?_ | refine WE.passRet ?_ | refine WE.outRet ?_
      refine WE.retN (l := [2, 3]) rfl rfl rfl ?_
      exact ⟨by rw [e, hng'], rfl⟩
    · have h1' : ¬ ((numd 1 l).getD ((k : Nat) : Int).toNat default).kind = 1 := by rw [hng']; exact h1
      have e : safeOf (l.take k) = safeOf l := by
        rw [← hsf]; unfold noteF; rw [if_neg h1]
      repeat first
        | (apply WL.q; exact rfl; exact rfl; exact rfl; (first | (apply EvW.move; exact rfl) | (apply EvW.assign; exact rfl) | (apply EvW.ldFld; exact rfl; exact ScalC.eq; assumption; exact fun _ => rfl; omega; exact rfl; exact inferInstance) | (apply EvW.cmpT; exact rfl; exact rfl; exact rfl; omega) | (apply EvW.cmpF; exact rfl; exact rfl; exact rfl; omega) | (apply EvW.arN; exact rfl; exact rfl; exact rfl; refine i64_in ?_ ?_ <;> omega) | (apply EvW.idxRow; exact rfl; exact rfl; exact UndC.eq; exact SzC.eq; assumption; omega; omega) | (apply EvW.fldRow; exact rfl; exact FldC.eq; assumption; omega)))
        | refine WC.seq ?_ | refine WC.region ?_ | refine WL.nil ?_ | refine WE.next ?_ | refine WC.block ?_ | refine WC.skip ?_ | refine WE.out ?_ | refine WC.condT rfl ?_ | refine WC.condF rfl ?_
      exact WE.again (s := (k + 1)) (k) ⟨by omega, e⟩ (by (focus ((repeat (first | exact trivial | (refine ⟨rfl, ?_⟩))); done))) (fun _ h => (by (try simp only []); exact h.keep (by repeat constructor))) (by (try simp only []); omega)
  · obtain rfl : i = 0 := by omega
    have e : safeOf l = ([], false) := by rw [← hsf]; rfl
    repeat first
      | (apply WL.q; exact rfl; exact rfl; exact rfl; (first | (apply EvW.move; exact rfl) | (apply EvW.assign; exact rfl) | (apply EvW.cmpF; exact rfl; exact rfl; exact rfl; omega)))
      | refine WC.seq ?_ | refine WC.region ?_ | refine WL.nil ?_ | refine WE.next ?_ | refine WC.exit ?_ | refine WE.pass ?_ | refine WE.hit ?_ | refine WC.condF rfl ?_ | refine WC.ret ?_
    refine WE.retN (l := [2, 3]) rfl rfl rfl ?_
    exact ⟨by rw [e], rfl⟩
set_option maxHeartbeats 1000000 in
theorem ends_spec (mv rv : Value) (T F : List RecN) (e : Nat) (w : World) (S : BSet) (hS : (sepL [.own 34 3 (mv) (T).length ((T).flatMap recC), .own 34 3 (rv) (F).length ((F).flatMap recC)]).sat S w) (he : e ≤ T.length) (hf : F.length ≤ e) (hm : e ≤ F.length ∨ 16 ≤ F.length) (hl : T.length ≤ 140737488355328) (hx : ∀ i, i < F.length → F.getD i default = T.getD (e - F.length + i) default) :
    Tri Try.prog 67 #[mv, i64 e, rv] w S fun u A => u = .bool true ∧ A = [.own 34 3 (mv) (T).length ((T).flatMap recC), .own 34 3 (rv) (F).length ((F).flatMap recC)] := by
  refine Tri.enter (l := [mv, i64 e, rv]) Try.func67 rfl Try.ntmps67 rfl [(0, mv), (1, i64 e), (2, rv)] (subA rfl) hS ?_
  have h1 : ¬ (e : Int) < 0 := by omega
  have h2 : ¬ (e : Int) > T.length := by omega
  have h3 : ¬ (F.length : Int) > e := by omega
  have h4 : ¬ (F.length : Int) < min (e : Int) 16 := by omega
  repeat first
    | (apply WL.q; exact rfl; exact rfl; exact rfl; (first | (apply EvW.move; exact rfl) | (apply EvW.assign; exact rfl) | (apply EvW.cmpF; exact rfl; exact rfl; exact rfl; omega) | (apply EvW.pickF; exact rfl; exact rfl) | (apply EvW.min2; exact rfl; exact rfl) | (apply EvW.lenOwn; exact rfl; exact UndC.eq; (focus ((repeat constructor); done)))))
    | refine WC.seq ?_ | refine WC.region ?_ | refine WL.nil ?_ | refine WE.next ?_ | refine WC.block ?_ | refine WC.skip ?_ | refine WC.condF rfl ?_ | refine WL.wanted rfl rfl rfl ?_
  refine WC.loopK (σ := Nat) [0, 1, 2, 30] (fun s => [(31, i64 s)]) (fun s => [.own 34 3 (mv) (T).length ((T).flatMap recC), .own 34 3 (rv) (F).length ((F).flatMap recC)]) (fun s => s ≤ F.length) (fun s => F.length - s) 0 (by (focus ((repeat (first | exact Pick.nil | (apply Pick.cons; exact rfl))); done))) (by (focus ((repeat (first | exact trivial | (refine ⟨rfl, ?_⟩))); done))) (fun _ h => h.keep (by repeat constructor)) (Nat.zero_le _) (fun s hs => ?_)
  obtain ⟨i, rfl⟩ : ∃ q, q = s := ⟨s, rfl⟩
  simp only [List.cons_append, List.nil_append] at hs ⊢
  by_cases hlt : (i : Int) < F.length
  · have hi : i < F.length := by omega
    have hxi := hx i hi
    have hn : ((e : Int) - F.length + i).toNat = e - F.length + i := by omega
    obtain ⟨z, hz⟩ : ∃ z, F.getD ((i : Nat) : Int).toNat default = z := ⟨_, rfl⟩
    have hzT : T.getD ((e : Int) - F.length + i).toNat default = z := by rw [hn, ← hxi]; exact hz
    repeat first
      | (apply WL.q; exact rfl; exact rfl; exact rfl; (first | (apply EvW.move; exact rfl) | (apply EvW.assign; exact rfl) | (apply EvW.cmpT; exact rfl; exact rfl; exact rfl; omega)))
      | refine WC.seq ?_ | refine WC.region ?_ | refine WL.nil ?_ | refine WE.next ?_ | refine WC.block ?_ | refine WC.skip ?_ | refine WC.condT rfl ?_
    repeat refine WC.seq ?_
    refine WC.keep (xs := [.own 34 3 (mv) (T).length ((T).flatMap recC), .own 34 3 (rv) (F).length ((F).flatMap recC)]) (by repeat constructor) ?_
    apply WC.par _ (fun c : Ch => [.own 34 3 (mv) (T).length ((T).flatMap recC), .own 34 3 (rv) (F).length ((F).flatMap recC)]) [none, none] [none, none] [] Try.mixed
    · (focus ((repeat (first | exact Restr.nil | (apply Restr.keep; exact rfl; exact rfl) | (apply Restr.drop; exact rfl))); done))
    · intro c; exact (by repeat constructor)
    · exact rfl
    · decide +kernel
    · decide +kernel
    · intro c
      (apply Par.quiet _ [true, true]; exact rfl; decide +kernel; exact rfl; intro R; refine ⟨_, (by repeat constructor), ?_⟩;
           (first | (apply EvW.move; exact rfl)))
      (apply Par.quiet _ [true, true]; exact rfl; decide +kernel; exact rfl; intro R; refine ⟨_, (by repeat constructor), ?_⟩;
           (first | (apply EvW.move; exact rfl)))
      (apply Par.quiet _ [true, true]; exact rfl; decide +kernel; exact rfl; intro R; refine ⟨_, (by repeat constructor), ?_⟩;
           (first | (apply EvW.idxOwn; exact rfl; exact rfl; exact UndC.eq; exact SzC.eq; (focus ((repeat constructor); done)); omega; omega)))
      apply Par.quiet _ [true, true]
      · exact rfl
      · decide +kernel
      · exact rfl
      · intro R
        refine ⟨_, (by repeat constructor), ?_⟩
        (apply EvW.ldElemOwn (xs := F) (z := (default : RecN)) (f := recC); exact rfl; exact AggC.eq; exact SzC.eq; exact rfl; exact fun _ => rfl; (focus ((repeat constructor); done)); omega)
      (apply Par.quiet _ [true, true]; exact rfl; decide +kernel; exact rfl; intro R; refine ⟨_, (by repeat constructor), ?_⟩;
           (first | (apply EvW.move; exact rfl)))
      (apply Par.quiet _ [true, true]; exact rfl; decide +kernel; exact rfl; intro R; refine ⟨_, (by repeat constructor), ?_⟩;
           (first | (apply EvW.move; exact rfl)))
      (apply Par.quiet _ [true, true]; exact rfl; decide +kernel; exact rfl; intro R; refine ⟨_, (by repeat constructor), ?_⟩;
           (first | (apply EvW.move; exact rfl)))
      (apply Par.quiet _ [true, true]; exact rfl; decide +kernel; exact rfl; intro R; refine ⟨_, (by repeat constructor), ?_⟩;
           (first | (apply EvW.lenOwn; exact rfl; exact UndC.eq; (focus ((repeat constructor); done)))))
      (apply Par.quiet _ [true, true]; exact rfl; decide +kernel; exact rfl; intro R; refine ⟨_, (by repeat constructor), ?_⟩;
           (first | (apply EvW.arN; exact rfl; exact rfl; exact rfl; refine i64_in ?_ ?_ <;> omega)))
      (apply Par.quiet _ [true, true]; exact rfl; decide +kernel; exact rfl; intro R; refine ⟨_, (by repeat constructor), ?_⟩;
           (first | (apply EvW.move; exact rfl)))
      (apply Par.quiet _ [true, true]; exact rfl; decide +kernel; exact rfl; intro R; refine ⟨_, (by repeat constructor), ?_⟩;
           (first | (apply EvW.arN; exact rfl; exact rfl; exact rfl; refine i64_in ?_ ?_ <;> omega)))
      (apply Par.quiet _ [true, true]; exact rfl; decide +kernel; exact rfl; intro R; refine ⟨_, (by repeat constructor), ?_⟩;
           (first | (apply EvW.idxOwn; exact rfl; exact rfl; exact UndC.eq; exact SzC.eq; (focus ((repeat constructor); done)); omega; omega)))
      apply Par.quiet _ [true, true]
      · exact rfl
      · decide +kernel
      · exact rfl
      · intro R
        refine ⟨_, (by repeat constructor), ?_⟩
        (apply EvW.ldElemOwn (xs := T) (z := (default : RecN)) (f := recC); exact rfl; exact AggC.eq; exact SzC.eq; exact rfl; exact fun _ => rfl; (focus ((repeat constructor); done)); omega)
      apply Par.quiet _ [true, true]
      · exact rfl
      · decide +kernel
      · exact rfl
      · intro R
        refine ⟨_, (by repeat constructor), ?_⟩
        (apply EvW.neMix3 [(0, 0), (1, 0), (2, 2)] (l := recC z); (rw [← hz]; exact rfl); (rw [← hzT]; exact rfl); kernel_rfl; exact rfl)
      exact Par.nil
    · repeat (first | exact AllN.nil | (apply AllN.cons; (intro c x; (repeat (first | exact IndA.nil | (apply IndA.skip; decide +kernel) | apply IndA.same))))) 
    · repeat (first | exact AllN.nil | (apply AllN.cons; (intro c x; (repeat (first | exact IndT.nil | (apply IndT.skip; decide +kernel) | apply IndT.same))))) 
    · exact fun _ => rfl
    intro c
    refine ⟨_, (by repeat constructor), ?_⟩
    apply WE.writ
    · (focus ((repeat (first | exact Writ.nil | apply Writ.some | apply Writ.none)); done))
    repeat first
      | (apply WL.q; exact rfl; exact rfl; exact rfl; (first | (apply EvW.move; exact rfl) | (apply EvW.arN; exact rfl; exact rfl; exact rfl; refine i64_in ?_ ?_ <;> omega)))
      | refine WC.region ?_ | refine WL.nil ?_ | refine WE.next ?_ | refine WC.skip ?_ | refine WE.out ?_ | refine WC.condF rfl ?_
    exact WE.again (s := i) (i + 1) hi (by (focus ((repeat (first | exact trivial | (refine ⟨rfl, ?_⟩))); done))) (fun _ h => (by (try simp only []); exact h.keep (by repeat constructor))) (by (try simp only []); omega)
  · repeat first
      | (apply WL.q; exact rfl; exact rfl; exact rfl; (first | (apply EvW.assign; exact rfl) | (apply EvW.cmpF; exact rfl; exact rfl; exact rfl; omega)))
      | refine WC.seq ?_ | refine WC.region ?_ | refine WL.nil ?_ | refine WE.next ?_ | refine WC.exit ?_ | refine WE.pass ?_ | refine WE.hit ?_ | refine WC.condF rfl ?_ | refine WC.ret ?_
    refine WE.keep (xs := [.own 34 3 (mv) (T).length ((T).flatMap recC), .own 34 3 (rv) (F).length ((F).flatMap recC)]) (by repeat constructor) ?_
    refine WE.ret1 rfl rfl ?_
    exact ⟨rfl, rfl⟩
end Go.Proofs.Ytknclcjmfgdphaa
namespace Go.BK
theorem NewW.conv8 {P : Program} {w0 : World} {S0 : BSet} {n : Nat} {F : Fr} {A : List HP} {out out' : Nat × Value → List HP} {o : Oper} {val : Nat × Value → Value} (h : NewW P w0 S0 n F A out' o val) (k : ∀ p w, St w0 S0 (out' p) w → St w0 S0 (out p) w) : NewW P w0 S0 n F A out o val :=
  ⟨fun Q K a w ha hs hK => h.go Q K a w ha hs fun p w' hs' => hK p w' (k p w' hs')⟩
theorem St.zero8 {w0 w : World} {S0 : BSet} {r : List HP} {k e sz : Nat} (h : St w0 S0 (.blk k ([] : List Value).toArray e :: r) w) : St w0 S0 (.own e sz (.slice (some ⟨k, 0, none⟩) 0 0) 0 [] :: r) w :=
  h.mono fun S w hs => star_mono hs (fun S h => blk_own (sp := []) h (Nat.zero_mul _).symm (Nat.le_refl _) (Nat.zero_mul _).symm) fun _ h => h
theorem adds_seen {P : Program} {w0 : World} {S0 : BSet} {A : List HP} {sz m : Nat} {u : Value} {ys : List Value} (hl : ys.length = m * sz) (h1 : ys.all (·.oneCell') = true) (k : ∀ w, St w0 S0 A w → Sees w (fun _ => False) (.row sz u m ys)) : Adds P w0 S0 A sz u m ys :=
  ⟨hl, h1, fun w hst => (adds_row (P := P) (A := []) (k w hst) h1).2.2 w (St.bare w)⟩
theorem St.seen {w0 w : World} {S0 : BSet} {A r : List HP} {B : HP} (h : St w0 S0 A w) (ht : Take B A r) : Sees w (fun _ => False) B := by
  obtain ⟨R, hR⟩ := h.take ht
  exact ⟨R, hR, fun _ _ h => h⟩
end Go.BK
namespace Go.Proofs.Ytknclcjmfgdphaa
open Go.RowKit Go.BK
theorem flat_takeR (l : List RecN) (k : Nat) : (l.flatMap recC).take (k * 3) = (l.take k).flatMap recC := by
  induction l generalizing k with
  | nil => simp
  | cons r l ih =>
    cases k with
    | zero => simp
    | succ k =>
      rw [List.flatMap_cons, List.take_succ_cons, List.flatMap_cons, ← ih k, show (k + 1) * 3 = (recC r).length + k * 3 by show _ = 3 + _; omega, List.take_length_add_append]
theorem numd_take (l : List Rec) : ∀ (f k : Nat), (numd f l).take k = numd f (l.take k) := by
  induction l with
  | nil => intro f k; simp [numd]
  | cons r l ih =>
    intro f k
    cases k with
    | zero => rfl
    | succ k => show _ :: (numd (f + 1) l).take k = _ :: numd (f + 1) (l.take k); rw [ih]
theorem getD_take {α : Type} (l : List α) {i k : Nat} (d : α) (h : i < k) : (l.take k).getD i d = l.getD i d := by
  rw [List.getD_eq_getElem?_getD, List.getElem?_take, if_pos h, ← List.getD_eq_getElem?_getD]
theorem ends_ok {x M : List Rec} {bb : Nat} (h2 : x.length ≤ M.length) (h3 : M.take x.length = x) (hb1 : 1 ≤ bb) (hb2 : bb ≤ x.length + 1) (i : Nat) (hi : i < (foundN x bb).length) : (foundN x bb).getD i default = (numd 1 M).getD (x.length - (foundN x bb).length + i) default := by
  have hfl := found_len x bb hb1
  have hi2 : bb - 1 + i < x.length := by omega
  have hd : i < (x.drop (bb - 1)).length := by rw [List.length_drop]; omega
  rw [show x.length - (foundN x bb).length + i = bb - 1 + i by omega, numd_get M 1 _ (by omega)]
  unfold foundN
  rw [numd_get _ _ _ hd]
  have e : (x.drop (bb - 1)).getD i default = M.getD (bb - 1 + i) default := by
    rw [List.getD_eq_getElem?_getD, List.getElem?_drop, ← List.getD_eq_getElem?_getD, ← getD_take M (k := x.length) default hi2, h3]
  rw [e, show bb + i = 1 + (bb - 1 + i) by omega]
theorem row_take {w : World} {S : BSet} {v : Value} {x M : List Rec} (h : Sees w S (.own 34 3 (v) (numd 1 M).length ((numd 1 M).flatMap recC))) (h2 : x.length ≤ M.length) (h3 : M.take x.length = x) : Sees w S (.row 3 (subSl 3 0 x.length v) x.length ((numd 1 x).flatMap recC)) := by
  have h1 := h.own.subRow (lo := 0) (hi := x.length) (Nat.zero_le _) (by rw [numd_len]; exact h2)
  rw [flat_takeR, numd_take, h3, Nat.zero_mul, List.drop_zero, Nat.sub_zero] at h1
  exact h1
set_option maxHeartbeats 2000000 in
theorem found8_spec (b mb jb K : Nat) (nc : Bool) (jv av uv mv rv : Value) (all M x : List Rec) (bb : Nat) (w : World) (S : BSet) (hS : (sepL [.blk b #[ptr mb 0, jv, av, uv] 80, upH jb mb K nc x, .own 34 3 (av) (numd 1 all).length ((numd 1 all).flatMap recC), .own 34 3 (mv) (numd 1 M).length ((numd 1 M).flatMap recC), .own 34 3 (rv) (foundN x bb).length ((foundN x bb).flatMap recC)]).sat S w) (h1 : all.length ≤ x.length) (h2 : x.length ≤ M.length) (h3 : M.take x.length = x) (hb1 : 1 ≤ bb) (hb2 : bb ≤ x.length + 1) (hb3 : bb = 1 ∨ bb + 16 ≤ x.length + 1) (hl : M.length ≤ 4294967296) :
    Tri Try.prog 50 #[ptr b 0, ptr jb 0, mv, rv] w S fun u A => ∃ av', u = .bool true ∧ A = [.blk b #[ptr mb 0, ptr jb 0, av', uv] 80, upH jb mb K nc x, .own 34 3 (av') (numd 1 x).length ((numd 1 x).flatMap recC)] := by
  refine Tri.enter (l := [ptr b 0, ptr jb 0, mv, rv]) Try.func50 rfl Try.ntmps50 rfl [(0, ptr b 0), (1, ptr jb 0), (2, mv), (3, rv)] (subA rfl) hS ?_
  have hfl := found_len x bb hb1
  have hml := numd_len M 1
  have hal := numd_len all 1
  have hnum : numN x = (x.length : Int) + 1 := rfl
  have hxo : ((numd 1 x).flatMap recC).all (·.oneCell') = true := all_recN _
  (first | refine WL.slOwn (v := mv) (by repeat constructor) ?_ | refine WC.slOwn (v := mv) (by repeat constructor) ?_)
  intro hc_mv ho_mv
  (first | refine WL.slOwn (v := rv) (by repeat constructor) ?_ | refine WC.slOwn (v := rv) (by repeat constructor) ?_)
  intro hc_rv ho_rv
  (first | refine WL.slOwn (v := av) (by repeat constructor) ?_ | refine WC.slOwn (v := av) (by repeat constructor) ?_)
  intro hc_av ho_av
  repeat first
    | (apply WL.q; exact rfl; exact rfl; exact rfl; (first | (apply EvW.move; exact rfl) | (apply EvW.assign; exact rfl)))
    | refine WC.seq ?_ | refine WC.region ?_ | refine WL.nil ?_ | refine WE.next ?_
  try refine WL.wanted rfl rfl rfl ?_
  apply WL.callA ([upH jb mb K nc x])
  · exact rfl
  · exact rfl
  · exact fun w => Try.call12 _ w
  · (focus ((repeat constructor); done))
  · exact fun w1 S1 hS1 hs1 ho1 => next_up jb mb K nc x w1 S1 hS1
  rintro _ _ ⟨rfl, rfl⟩
  first | refine WL.app4 ?_ | refine WL.app3 ?_ | refine WL.app2 ?_ | refine WL.app1 ?_ | refine WL.app0 ?_ | skip
  rw [hnum]
  repeat first
    | (apply WL.q; exact rfl; exact rfl; exact rfl; (first | (apply EvW.move; exact rfl) | (apply EvW.assign; exact rfl) | (apply EvW.nilPtr; exact rfl) | (apply EvW.fieldAddr0; exact rfl; exact FldC.eq) | (apply EvW.load; exact rfl; exact ScalC.eq; (focus ((repeat constructor); done)); exact rfl) | (apply EvW.cmpF; exact rfl; exact rfl; exact rfl; omega) | (apply EvW.arN; exact rfl; exact rfl; exact rfl; refine i64_in ?_ ?_ <;> omega) | (apply EvW.pickF; exact rfl; exact rfl) | (apply EvW.lenOwn; exact rfl; exact UndC.eq; (focus ((repeat constructor); done)))))
    | refine WC.seq ?_ | refine WC.region ?_ | refine WL.nil ?_ | refine WE.next ?_ | refine WL.wanted rfl rfl rfl ?_
  rw [show ((x.length : Int) + 1 - 1) = (x.length : Int) by omega]
  try refine WL.wanted rfl rfl rfl ?_
  apply WL.callA ([.own 34 3 (mv) (numd 1 M).length ((numd 1 M).flatMap recC), .own 34 3 (rv) (foundN x bb).length ((foundN x bb).flatMap recC)])
  · exact rfl
  · exact rfl
  · exact fun w => Try.call67 _ w
  · (focus ((repeat constructor); done))
  · exact fun w1 S1 hS1 hs1 ho1 => ends_spec mv rv (numd 1 M) (foundN x bb) x.length w1 S1 hS1 (by omega) (by omega) (by omega) (by omega) (ends_ok h2 h3 hb1 hb2)
  rintro _ _ ⟨rfl, rfl⟩
  first | refine WL.app4 ?_ | refine WL.app3 ?_ | refine WL.app2 ?_ | refine WL.app1 ?_ | refine WL.app0 ?_ | skip
  repeat first
    | (apply WL.q; exact rfl; exact rfl; exact rfl; (first | (apply EvW.move; exact rfl) | (apply EvW.nilPtr; exact rfl) | (apply EvW.fieldAddr0; exact rfl; exact FldC.eq) | (apply EvW.pickF; exact rfl; exact rfl) | (apply EvW.notT; exact rfl)))
    | refine WC.seq ?_ | refine WC.region ?_ | refine WL.nil ?_ | refine WE.next ?_ | refine WC.skip ?_ | refine WC.condF rfl ?_ | refine WL.wanted rfl rfl rfl ?_
  try refine WL.wanted rfl rfl rfl ?_
  apply WL.callA ([upH jb mb K nc x])
  · exact rfl
  · exact rfl
  · exact fun w => Try.call15 _ w
  · (focus ((repeat constructor); done))
  · exact fun w1 S1 hS1 hs1 ho1 => safe_up jb mb K nc x w1 S1 hS1
  rintro _ _ ⟨rfl, rfl⟩
  first | refine WL.app4 ?_ | refine WL.app3 ?_ | refine WL.app2 ?_ | refine WL.app1 ?_ | refine WL.app0 ?_ | skip
  repeat first
    | (apply WL.q; exact rfl; exact rfl; exact rfl; (first | (apply EvW.move; exact rfl) | (apply EvW.assign; exact rfl) | (apply EvW.extract; exact rfl; exact rfl) | (apply EvW.sliceOwn_hi; exact rfl; exact UndC.eq; exact SzC.eq; (focus ((repeat constructor); done)); exact rfl; omega; omega)))
    | refine WC.seq ?_ | refine WC.region ?_ | refine WL.nil ?_ | refine WE.next ?_
  try refine WL.wanted rfl rfl rfl ?_
  apply WL.callA ([])
  · exact rfl
  · exact rfl
  · exact fun w => Try.call29 _ w
  · (focus ((repeat constructor); done))
  · exact fun w1 S1 hS1 hs1 ho1 => rsafe_spec (subSl 3 0 x.length mv) x w1 S1 hS1 (row_take (ho1 (.own 34 3 (mv) (numd 1 M).length ((numd 1 M).flatMap recC)) _ (by repeat constructor)) h2 h3) (by omega)
  rintro _ _ ⟨rfl, rfl⟩
  first | refine WL.app4 ?_ | refine WL.app3 ?_ | refine WL.app2 ?_ | refine WL.app1 ?_ | refine WL.app0 ?_ | skip
  repeat first
    | (apply WL.q; exact rfl; exact rfl; exact rfl; (first | (apply EvW.move; exact rfl) | (apply EvW.assign; exact rfl) | (apply EvW.nilPtr; exact rfl) | (apply EvW.fieldAddr0; exact rfl; exact FldC.eq) | (apply EvW.extract; exact rfl; exact rfl)))
    | refine WC.seq ?_ | refine WC.region ?_ | refine WL.nil ?_ | refine WE.next ?_ | (apply WL.store; exact rfl; exact rfl; (first | assumption | exact rfl); exact SzC.eq; (first | assumption | exact rfl); (focus ((repeat constructor); done)))
  try refine WL.wanted rfl rfl rfl ?_
  (apply WL.buildSlice; exact rfl; exact UndC.eq; exact SzC.eq; exact ZvC.eq; exact rfl; exact rfl; exact rfl; ((focus ((repeat (first | exact Flat.nil | (apply Flat.one; (first | exact rfl | assumption)) | (apply Flat.cons; exact rfl; exact rfl))); done))); exact rfl; exact rfl; intro c1)
  refine WL.toOwn (bl := c1) 0 3 .head rfl ?_
  repeat first
    | (apply WL.q; exact rfl; exact rfl; exact rfl; (first | (apply EvW.move; exact rfl) | (apply EvW.sliceOwn_hi; exact rfl; exact UndC.eq; exact SzC.eq; (focus ((repeat constructor); done)); exact rfl; omega; omega)))
  try refine WL.wanted rfl rfl rfl ?_
  (apply WL.append; exact rfl; exact rfl; exact rfl; exact UndC.eq; exact SzC.eq; exact ByC.eq; exact ZvC.eq; exact rfl; (first | exact notInt_sl UndC.eq | exact notInt_st UndC.eq); exact rfl; (focus ((repeat constructor); done)))
  · exact (adds_seen (flat_recN (numd 1 x) |>.trans (by rw [numd_len])) hxo (fun w hst => row_take (hst.seen (B := .own 34 3 (mv) (numd 1 M).length ((numd 1 M).flatMap recC)) (by repeat constructor)) h2 h3))
  · (omega)
  intro av2
  refine WL.ownEq (cs' := (numd 1 x).flatMap recC) (len' := (numd 1 x).length) .head (by rw [numd_len]; omega) rfl ?_
  (first | refine WL.slOwn (v := av2) (by repeat constructor) ?_ | refine WC.slOwn (v := av2) (by repeat constructor) ?_)
  intro hc_av2 ho_av2
  repeat first
    | (apply WL.q; exact rfl; exact rfl; exact rfl; (first | (apply EvW.move; exact rfl) | (apply EvW.nilPtr; exact rfl) | (apply EvW.fieldAddr0; exact rfl; exact FldC.eq) | (apply EvW.pickT; exact rfl; exact rfl) | (apply EvW.seqS; exact rfl; exact rfl) | (apply EvW.beqS; exact rfl; exact rfl; exact UndC.eq)))
    | refine WC.seq ?_ | refine WC.region ?_ | refine WL.nil ?_ | refine WE.next ?_ | refine WL.wanted rfl rfl rfl ?_ | (apply WL.store; exact rfl; exact rfl; (first | assumption | exact rfl); exact SzC.eq; (first | assumption | exact rfl); (focus ((repeat constructor); done)))
  try refine WL.wanted rfl rfl rfl ?_
  apply WL.callA ([upH jb mb K nc x])
  · exact rfl
  · exact rfl
  · exact fun w => Try.call23 _ w
  · (focus ((repeat constructor); done))
  · exact fun w1 S1 hS1 hs1 ho1 => jdown_up jb mb K nc x w1 S1 hS1
  rintro _ _ ⟨rfl, rfl⟩
  first | refine WL.app4 ?_ | refine WL.app3 ?_ | refine WL.app2 ?_ | refine WL.app1 ?_ | refine WL.app0 ?_ | skip
  repeat first
    | (apply WL.q; exact rfl; exact rfl; exact rfl; (first | (apply EvW.assign; exact rfl) | (apply EvW.pickT; exact rfl; exact rfl) | (apply EvW.notF; exact rfl)))
    | refine WL.nil ?_ | refine WE.next ?_ | refine WC.ret ?_ | refine WL.wanted rfl rfl rfl ?_
  refine WE.keep (xs := [.blk b #[ptr mb 0, ptr jb 0, av2, uv] 80, upH jb mb K nc x, .own 34 3 (av2) (numd 1 x).length ((numd 1 x).flatMap recC)]) (by repeat constructor) ?_
  refine WE.ret1 rfl rfl ?_
  exact ⟨av2, rfl, rfl⟩
end Go.Proofs.Ytknclcjmfgdphaa
namespace Go.BK
open Go.RowKit
theorem EvW.pneNN {P : Program} {w0 : World} {S0 : BSet} {n : Nat} {F : Fr} {A : List HP} {dd : Option Tmp} {T t e ty : TypeId} {pos : String} {af : Array Edge} {g : Option (Nat × Bool)} {x y : Operand} (hx : ev F x = some (.pointer none)) (hy : ev F y = some (.pointer none)) (hu : P.underlying t = some (.pointer e)) : EvW P w0 S0 n F A ⟨dd, .binOp .neq t x y ty, T, pos, af, g⟩ (.bool false) :=
  .pure fun a' w ha _ => by
    have key : ∀ m, (Op.equalIn (m + 1) t (.pointer none) (.pointer none)).run P w = .ok true w := fun m => by simp [Op.equalIn, run_underlying hu]
    have : (Op.equal t (.pointer none) (.pointer none)).run P w = .ok true w := key 9999
    simp [execOp, ha.eval hx, ha.eval hy, eqGuard, binOp, this]
end Go.BK
namespace Go.Proofs.Ytknclcjmfgdphaa
open Go.RowKit Go.BK
set_option maxHeartbeats 4000000 in
set_option maxRecDepth 4000 in
theorem lopen_spec (b mb K : Nat) (nc : Bool) (jv av uv cv : Value) (all und x : List Rec) (cs : List Cut) (w : World) (S : BSet) (hS : (sepL [.blk b #[ptr mb 0, jv, av, uv] 80, rsH mb K nc x, .own 34 3 (av) (numd 1 all).length ((numd 1 all).flatMap recC), .own 34 3 (uv) (numd (all.length + 1) und).length ((numd (all.length + 1) und).flatMap recC)]).sat S w) (hv : Sees w S (.row 2 cv cs.length (cs.flatMap cutC))) (hcl : cs.length ≤ 17592186044416) (h1 : all.length ≤ x.length) (h2 : x.length ≤ (all ++ und).length) (h3 : (all ++ und).take x.length = x) (hl : (all ++ und).length ≤ 4294967290) (hK : K ≤ 1099511620000) :
    Tri Try.prog 27 #[ptr b 0, cv] w S fun u A => ∃ mb' jb av', u = .bool true ∧ A = [.blk b #[ptr mb' 0, ptr jb 0, av', .slice none 0 0] 80, upH jb mb' (K + 4) true x, .own 34 3 (av') (numd 1 x).length ((numd 1 x).flatMap recC)] := by
  refine Tri.enter (l := [ptr b 0, cv]) Try.func27 rfl Try.ntmps27 rfl [(0, ptr b 0), (1, cv)] (subA rfl) hS ?_
  have hal := numd_len all 1
  have hul := numd_len und (all.length + 1)
  have hml : (all ++ und).length = all.length + und.length := List.length_append
  have hM : numd 1 (all ++ und) = numd 1 all ++ numd (all.length + 1) und := by rw [numd_append, Nat.add_comm]
  (first | refine WL.slOwn (v := av) (by repeat constructor) ?_ | refine WC.slOwn (v := av) (by repeat constructor) ?_)
  intro hc_av ho_av
  (first | refine WL.slOwn (v := uv) (by repeat constructor) ?_ | refine WC.slOwn (v := uv) (by repeat constructor) ?_)
  intro hc_uv ho_uv
  repeat first
    | (apply WL.q; exact rfl; exact rfl; exact rfl; (first | (apply EvW.move; exact rfl) | (apply EvW.assign; exact rfl) | (apply EvW.nilPtr; exact rfl) | (apply EvW.fieldAddr0; exact rfl; exact FldC.eq) | (apply EvW.load; exact rfl; exact ScalC.eq; (focus ((repeat constructor); done)); exact rfl)))
    | refine WC.seq ?_ | refine WC.region ?_ | refine WL.nil ?_ | refine WE.next ?_
  try refine WL.wanted rfl rfl rfl ?_
  apply WL.callA ([rsH mb K nc x])
  · exact rfl
  · exact rfl
  · exact fun w => Try.call17 _ w
  · (focus ((repeat constructor); done))
  · exact fun w1 S1 hS1 hs1 ho1 => arm_rs mb K nc x cv cs false w1 S1 hS1 (hs1 _ hv) hcl (fun h => by cases h)
  rintro _ _ ⟨rfl, rfl⟩
  first | refine WL.app4 ?_ | refine WL.app3 ?_ | refine WL.app2 ?_ | refine WL.app1 ?_ | refine WL.app0 ?_ | skip
  repeat first
    | refine WC.seq ?_ | refine WL.nil ?_ | refine WE.next ?_
  repeat refine WC.seq ?_
  refine WC.keep (xs := [.blk b #[ptr mb 0, jv, av, uv] 80, .own 34 3 (av) (numd 1 all).length ((numd 1 all).flatMap recC), .own 34 3 (uv) (numd (all.length + 1) und).length ((numd (all.length + 1) und).flatMap recC), rsH mb K false x]) (by repeat constructor) ?_
  apply WC.par _ (fun c : Ch => [.blk b #[ptr mb 0, jv, av, uv] 80, .own 34 3 (av) (numd 1 all).length ((numd 1 all).flatMap recC), .own 34 3 (uv) (numd (all.length + 1) und).length ((numd (all.length + 1) und).flatMap recC), rsH mb K false x, .own 34 3 (.slice (some ⟨(c 0).1, 0, none⟩) 0 0) 0 [], .own 34 3 ((c 5).2) (0 + (numd 1 all).length) ([] ++ (numd 1 all).flatMap recC), .own 34 3 ((c 10).2) (0 + (numd 1 all).length + (numd (all.length + 1) und).length) ([] ++ (numd 1 all).flatMap recC ++ (numd (all.length + 1) und).flatMap recC)]) [none, none, none, none, some 0, some 5, some 10] [none, none, none, none, some 5, some 10, none] [(0, fun x => .slice (some ⟨x.1, 0, none⟩) 0 0), (5, fun x => x.2), (10, fun x => x.2)] Try.mixed
  · (focus ((repeat (first | exact Restr.nil | (apply Restr.keep; exact rfl; exact rfl) | (apply Restr.drop; exact rfl))); done))
  · intro c; exact (by repeat constructor)
  · exact rfl
  · decide +kernel
  · decide +kernel
  · intro c
    apply Par.new _ [false, false, false, false, false, false, false] [false, false, false, false, true, false, false] [true, true, true, true, false, false, false]
    · exact rfl
    · exact rfl
    · decide +kernel
    · intro R
      refine ⟨_, _, _, (by repeat constructor), (by repeat constructor), (fun x => (by repeat constructor)), ?_⟩
      (refine NewW.conv8 ?_ (fun _ _ hs => St.zero8 hs); (apply NewW.buildSlice; exact UndC.eq; exact SzC.eq; exact ZvC.eq; exact rfl; exact rfl; exact rfl; exact Flat.nil; exact rfl; exact rfl; exact fun _ => rfl))
    (apply Par.quiet _ [true, true, true, true, false, false, false]; exact rfl; decide +kernel; exact rfl; intro R; refine ⟨_, (by repeat constructor), ?_⟩;
         (first | (apply EvW.move; exact rfl)))
    (apply Par.quiet _ [true, true, true, true, false, false, false]; exact rfl; decide +kernel; exact rfl; intro R; refine ⟨_, (by repeat constructor), ?_⟩;
         (first | (apply EvW.nilPtr; exact rfl)))
    (apply Par.quiet _ [true, true, true, true, false, false, false]; exact rfl; decide +kernel; exact rfl; intro R; refine ⟨_, (by repeat constructor), ?_⟩;
         (first | (apply EvW.fieldAddr0; exact rfl; exact FldC.eq)))
    (apply Par.quiet _ [true, true, true, true, false, false, false]; exact rfl; decide +kernel; exact rfl; intro R; refine ⟨_, (by repeat constructor), ?_⟩;
         (first | (apply EvW.load; exact rfl; exact ScalC.eq; (focus ((repeat constructor); done)); exact rfl)))
    apply Par.new _ [false, false, false, false, true, false, false] [false, false, false, false, false, true, false] [true, true, true, true, false, false, false]
    · exact rfl
    · exact rfl
    · decide +kernel
    · intro R
      refine ⟨_, _, _, (by repeat constructor), (by repeat constructor), (fun x => (by repeat constructor)), ?_⟩
      (apply NewW.append; exact rfl; exact rfl; exact UndC.eq; exact SzC.eq; exact ByC.eq; exact ZvC.eq; exact rfl; (first | exact notInt_sl UndC.eq | exact notInt_st UndC.eq); exact rfl; (focus ((repeat constructor); done)))
      · exact adds_own (by repeat constructor) (flat_recN _) (all_recN _)
      · (omega)
      · exact fun _ _ h => TakeT.st (by (focus ((repeat (first | exact TakeT.tail | apply TakeT.cons | exact Take.head | apply Take.tail | apply TakeT.drop)); done))) h
    (apply Par.quiet _ [true, true, true, true, false, false, false]; exact rfl; decide +kernel; exact rfl; intro R; refine ⟨_, (by repeat constructor), ?_⟩;
         (first | (apply EvW.move; exact rfl)))
    (apply Par.quiet _ [true, true, true, true, false, false, false]; exact rfl; decide +kernel; exact rfl; intro R; refine ⟨_, (by repeat constructor), ?_⟩;
         (first | (apply EvW.nilPtr; exact rfl)))
    (apply Par.quiet _ [true, true, true, true, false, false, false]; exact rfl; decide +kernel; exact rfl; intro R; refine ⟨_, (by repeat constructor), ?_⟩;
         (first | (apply EvW.fieldAddr0; exact rfl; exact FldC.eq)))
    (apply Par.quiet _ [true, true, true, true, false, false, false]; exact rfl; decide +kernel; exact rfl; intro R; refine ⟨_, (by repeat constructor), ?_⟩;
         (first | (apply EvW.load; exact rfl; exact ScalC.eq; (focus ((repeat constructor); done)); exact rfl)))
    apply Par.new _ [false, false, false, false, false, true, false] [false, false, false, false, false, false, true] [true, true, true, true, false, false, false]
    · exact rfl
    · exact rfl
    · decide +kernel
    · intro R
      refine ⟨_, _, _, (by repeat constructor), (by repeat constructor), (fun x => (by repeat constructor)), ?_⟩
      (apply NewW.append; exact rfl; exact rfl; exact UndC.eq; exact SzC.eq; exact ByC.eq; exact ZvC.eq; exact rfl; (first | exact notInt_sl UndC.eq | exact notInt_st UndC.eq); exact rfl; (focus ((repeat constructor); done)))
      · exact adds_own (by repeat constructor) (flat_recN _) (all_recN _)
      · (omega)
      · exact fun _ _ h => TakeT.st (by (focus ((repeat (first | exact TakeT.tail | apply TakeT.cons | exact Take.head | apply Take.tail | apply TakeT.drop)); done))) h
    (apply Par.quiet _ [true, true, true, true, false, false, true]; exact rfl; decide +kernel; exact rfl; intro R; refine ⟨_, (by repeat constructor), ?_⟩;
         (first | (apply EvW.assign; exact rfl)))
    exact Par.nil
  · repeat (first | exact AllN.nil | (apply AllN.cons; (intro c x; (repeat (first | exact IndA.nil | (apply IndA.skip; decide +kernel) | apply IndA.same))))) 
  · repeat (first | exact AllN.nil | (apply AllN.cons; (intro c x; (repeat (first | exact IndT.nil | (apply IndT.skip; decide +kernel) | apply IndT.same))))) 
  · exact fun _ => rfl
  intro c
  refine ⟨_, (by repeat constructor), ?_⟩
  apply WE.writ
  · (focus ((repeat (first | exact Writ.nil | apply Writ.some | apply Writ.none)); done))
  generalize (c 0).1 = b0
  generalize (c 10).2 = mv
  have eO : HP.own 34 3 mv (0 + (numd 1 all).length + (numd (all.length + 1) und).length) ([] ++ (numd 1 all).flatMap recC ++ (numd (all.length + 1) und).flatMap recC) = .own 34 3 (mv) (numd 1 (all ++ und)).length ((numd 1 (all ++ und)).flatMap recC) := by
    rw [hM, List.length_append, List.flatMap_append, Nat.zero_add]; rfl
  rw [eO]
  repeat first
    | (apply WL.q; exact rfl; exact rfl; exact rfl; (first | (apply EvW.move; exact rfl) | (apply EvW.assign; exact rfl) | (apply EvW.nilPtr; exact rfl) | (apply EvW.fieldAddr0; exact rfl; exact FldC.eq)))
    | refine WC.seq ?_ | refine WC.region ?_ | refine WL.nil ?_ | refine WE.next ?_ | refine WC.block ?_ | (apply WL.store; exact rfl; exact rfl; (first | assumption | exact rfl); exact SzC.eq; (first | assumption | exact rfl); (focus ((repeat constructor); done)))
  refine WC.loopK (σ := Nat × Nat × Bool) [0, 5] (fun s => [(6, i64 s.1)]) (fun s => [.blk b #[ptr s.2.1 0, jv, av, .slice none 0 0] 80, rsH s.2.1 (K + 2 * s.1) s.2.2 x, .own 34 3 (av) (numd 1 all).length ((numd 1 all).flatMap recC), .own 34 3 (mv) (numd 1 (all ++ und)).length ((numd 1 (all ++ und)).flatMap recC)]) (fun s => s.1 ≤ 1 ∧ (s.1 = 1 → s.2.2 = true)) (fun s => 2 - s.1) (0, mb, false) (by (focus ((repeat (first | exact Pick.nil | (apply Pick.cons; exact rfl))); done))) (by (focus ((repeat (first | exact trivial | (refine ⟨rfl, ?_⟩))); done))) (fun _ h => h.keep (by repeat constructor)) ⟨Nat.zero_le _, fun h => by cases h⟩ (fun s hs => ?_)
  obtain ⟨i, mm, nc2⟩ := s
  simp only [List.cons_append, List.nil_append] at hs ⊢
  obtain ⟨hi, hnc⟩ := hs
  have h3i : (i : Int) < 3 := by omega
  repeat first
    | (apply WL.q; exact rfl; exact rfl; exact rfl; (first | (apply EvW.move; exact rfl) | (apply EvW.nilPtr; exact rfl) | (apply EvW.fieldAddr0; exact rfl; exact FldC.eq) | (apply EvW.load; exact rfl; exact ScalC.eq; (focus ((repeat constructor); done)); exact rfl) | (apply EvW.cmpT; exact rfl; exact rfl; exact rfl; omega)))
    | refine WC.seq ?_ | refine WC.region ?_ | refine WL.nil ?_ | refine WE.next ?_ | refine WC.block ?_ | refine WC.skip ?_ | refine WC.condT rfl ?_
  try refine WL.wanted rfl rfl rfl ?_
  apply WL.callA ([rsH mm (K + 2 * i) nc2 x])
  · exact rfl
  · exact rfl
  · exact fun w => Try.call11 _ w
  · (focus ((repeat constructor); done))
  · exact fun w1 S1 hS1 hs1 ho1 => open8 mm (K + 2 * i) nc2 x w1 S1 hS1 (by omega)
  rintro _ _ hO
  first | refine WL.app4 ?_ | refine WL.app3 ?_ | refine WL.app2 ?_ | refine WL.app1 ?_ | refine WL.app0 ?_ | skip
  rcases hO with ⟨jb, rv, bb, rfl, rfl, hb1, hb2, hb3⟩ | ⟨hn, rfl, rfl⟩
  · refine WL.app2 ?_
    repeat first
      | (apply WL.q; exact rfl; exact rfl; exact rfl; (first | (apply EvW.move; exact rfl) | (apply EvW.assign; exact rfl) | (apply EvW.nilPtr; exact rfl) | (apply EvW.fieldAddr0; exact rfl; exact FldC.eq) | (apply EvW.load; exact rfl; exact ScalC.eq; (focus ((repeat constructor); done)); exact rfl) | (apply EvW.extract; exact rfl; exact rfl) | (apply EvW.cmpT; exact rfl; exact rfl; exact rfl; omega)))
      | refine WC.seq ?_ | refine WC.region ?_ | refine WL.nil ?_ | refine WE.next ?_ | refine WC.condT rfl ?_
    try refine WL.wanted rfl rfl rfl ?_
    apply WL.callA ([upH jb mm (K + 2 * i + 2) nc2 x])
    · exact rfl
    · exact rfl
    · exact fun w => Try.call17 _ w
    · (focus ((repeat constructor); done))
    · exact fun w1 S1 hS1 hs1 ho1 => arm_up jb mm (K + 2 * i + 2) nc2 x (.slice none 0 0) [] true w1 S1 hS1 Sees.nilRow (by decide) (fun _ => rfl)
    rintro _ _ ⟨rfl, rfl⟩
    first | refine WL.app4 ?_ | refine WL.app3 ?_ | refine WL.app2 ?_ | refine WL.app1 ?_ | refine WL.app0 ?_ | skip
    repeat first
      | (apply WL.q; exact rfl; exact rfl; exact rfl; (first | (apply EvW.move; exact rfl) | (apply EvW.pneN; exact rfl; exact rfl; exact UndC.eq)))
      | refine WC.seq ?_ | refine WC.region ?_ | refine WL.nil ?_ | refine WE.next ?_ | refine WL.wanted rfl rfl rfl ?_
    try refine WL.wanted rfl rfl rfl ?_
    apply WL.callA ([.blk b #[ptr mm 0, jv, av, .slice none 0 0] 80, upH jb mm (K + 2 * i + 2) true x, .own 34 3 (av) (numd 1 all).length ((numd 1 all).flatMap recC), .own 34 3 (mv) (numd 1 (all ++ und)).length ((numd 1 (all ++ und)).flatMap recC), .own 34 3 (rv) (foundN x bb).length ((foundN x bb).flatMap recC)])
    · exact rfl
    · exact rfl
    · exact fun w => Try.call50 _ w
    · (focus ((repeat constructor); done))
    · exact fun w1 S1 hS1 hs1 ho1 => found8_spec b mm jb (K + 2 * i + 2) true jv av (.slice none 0 0) mv rv all (all ++ und) x bb w1 S1 hS1 h1 h2 h3 hb1 hb2 hb3 (by omega)
    rintro _ _ ⟨av2, rfl, rfl⟩
    first | refine WL.app4 ?_ | refine WL.app3 ?_ | refine WL.app2 ?_ | refine WL.app1 ?_ | refine WL.app0 ?_ | skip
    repeat first
      | (apply WL.q; exact rfl; exact rfl; exact rfl; (first | (apply EvW.assign; exact rfl) | (apply EvW.pickT; exact rfl; exact rfl)))
      | refine WL.nil ?_ | refine WE.next ?_ | refine WC.ret ?_ | refine WE.passRet ?_ | refine WE.outRet ?_
    refine WE.keep (xs := [upH jb mm (K + 2 * i + 2) true x, .blk b #[ptr mm 0, ptr jb 0, av2, .slice none 0 0] 80, .own 34 3 (av2) (numd 1 x).length ((numd 1 x).flatMap recC)]) (by repeat constructor) ?_
    refine WE.conv (A' := [upH jb mm (K + 4) true x, .blk b #[ptr mm 0, ptr jb 0, av2, .slice none 0 0] 80, .own 34 3 (av2) (numd 1 x).length ((numd 1 x).flatMap recC)]) (fun _ h => h.mono fun S w h => up_le h (by omega)) ?_
    refine WE.keep (xs := [.blk b #[ptr mm 0, ptr jb 0, av2, .slice none 0 0] 80, upH jb mm (K + 4) true x, .own 34 3 (av2) (numd 1 x).length ((numd 1 x).flatMap recC)]) (by repeat constructor) ?_
    refine WE.ret1 rfl rfl ?_
    exact ⟨mm, jb, av2, rfl, rfl⟩
  · refine WL.app1 ?_
    have hi0 : i = 0 := by
      rcases Nat.lt_or_ge i 1 with h | h
      · omega
      · have := hnc (by omega); rw [this] at hn; cases hn
    repeat first
      | (apply WL.q; exact rfl; exact rfl; exact rfl; (first | (apply EvW.move; exact rfl) | (apply EvW.assign; exact rfl) | (apply EvW.extract; exact rfl; exact rfl) | (apply EvW.cmpF; exact rfl; exact rfl; exact rfl; omega)))
      | refine WC.seq ?_ | refine WC.region ?_ | refine WL.nil ?_ | refine WE.next ?_ | refine WC.skip ?_ | refine WC.condF rfl ?_
    (apply WL.q; exact rfl; exact rfl; exact rfl; (apply EvW.pneNN; exact rfl; exact rfl; exact UndC.eq))
    repeat first
      | (apply WL.q; exact rfl; exact rfl; exact rfl; (first | (apply EvW.move; exact rfl) | (apply EvW.nilPtr; exact rfl) | (apply EvW.fieldAddr0; exact rfl; exact FldC.eq) | (apply EvW.load; exact rfl; exact ScalC.eq; (focus ((repeat constructor); done)); exact rfl) | (apply EvW.cmpF; exact rfl; exact rfl; exact rfl; omega) | (apply EvW.pickF; exact rfl; exact rfl)))
      | refine WL.wanted rfl rfl rfl ?_
    try refine WL.wanted rfl rfl rfl ?_
    apply WL.callA ([dnH mm (K + 2 * i + 2) (fun y => y = x)])
    · exact rfl
    · exact rfl
    · exact fun w => Try.call18 _ w
    · (focus ((repeat constructor); done))
    · exact fun w1 S1 hS1 hs1 ho1 => down_dn mm (K + 2 * i + 2) (fun y => y = x) w1 S1 hS1
    rintro _ _ ⟨rfl, rfl⟩
    first | refine WL.app4 ?_ | refine WL.app3 ?_ | refine WL.app2 ?_ | refine WL.app1 ?_ | refine WL.app0 ?_ | skip
    repeat first
      | (apply WL.q; exact rfl; exact rfl; exact rfl; (first | (apply EvW.move; exact rfl) | (apply EvW.nilPtr; exact rfl) | (apply EvW.fieldAddr0; exact rfl; exact FldC.eq) | (apply EvW.load; exact rfl; exact ScalC.eq; (focus ((repeat constructor); done)); exact rfl) | (apply EvW.pickF; exact rfl; exact rfl) | (apply EvW.notT; exact rfl)))
      | refine WC.seq ?_ | refine WC.region ?_ | refine WL.nil ?_ | refine WE.next ?_ | refine WC.skip ?_ | refine WC.condF rfl ?_ | refine WL.wanted rfl rfl rfl ?_
    try refine WL.wanted rfl rfl rfl ?_
    apply WL.callA ([dnH mm (K + 2 * i + 2) (fun y => y = x)])
    · exact rfl
    · exact rfl
    · exact fun w => Try.call14 _ w
    · (focus ((repeat constructor); done))
    · exact fun w1 S1 hS1 hs1 ho1 => again_dn mm (K + 2 * i + 2) (fun y => y = x) w1 S1 hS1
    rintro _ _ ⟨q, al, rfl, hq, rfl⟩
    first | refine WL.app4 ?_ | refine WL.app3 ?_ | refine WL.app2 ?_ | refine WL.app1 ?_ | refine WL.app0 ?_ | skip
    obtain rfl : x = al := Eq.symm hq
    rw [show K + 2 * i + 2 = K + 2 * (i + 1) by omega]
    repeat first
      | (apply WL.q; exact rfl; exact rfl; exact rfl; (first | (apply EvW.move; exact rfl) | (apply EvW.assign; exact rfl) | (apply EvW.nilPtr; exact rfl) | (apply EvW.fieldAddr0; exact rfl; exact FldC.eq) | (apply EvW.load; exact rfl; exact ScalC.eq; (focus ((repeat constructor); done)); exact rfl) | (apply EvW.arN; exact rfl; exact rfl; exact rfl; refine i64_in ?_ ?_ <;> omega) | (apply EvW.peqN; exact rfl; exact rfl; exact UndC.eq)))
      | refine WC.seq ?_ | refine WC.region ?_ | refine WL.nil ?_ | refine WE.next ?_ | refine WC.skip ?_ | refine WE.out ?_ | refine WC.condF rfl ?_ | (apply WL.store; exact rfl; exact rfl; (first | assumption | exact rfl); exact SzC.eq; (first | assumption | exact rfl); (focus ((repeat constructor); done)))
    exact WE.again (s := (i, mm, nc2)) ((i + 1, q, true)) ⟨by (simp only []; omega), fun _ => rfl⟩ (by (focus ((repeat (first | exact trivial | (refine ⟨rfl, ?_⟩))); done))) (fun _ h => (by (try simp only []); exact h.keep (by repeat constructor))) (by (try simp only []); omega)
end Go.Proofs.Ytknclcjmfgdphaa
namespace Go.BK
open Go.RowKit
/-- One or the other. -/
def HP.or (A B : HP) : HP := ⟨fun S w => A.sat S w ∨ B.sat S w, fun h hk => h.imp (fun h => A.loc h hk) (fun h => B.loc h hk), fun h hb => h.elim (fun h => A.bnd h hb) (fun h => B.bnd h hb)⟩
theorem St.orH {w0 w : World} {S0 : BSet} {A r : List HP} {B C : HP} (ht : Take (.or B C) A r) (h : St w0 S0 A w) : St w0 S0 (B :: r) w ∨ St w0 S0 (C :: r) w := by
  obtain ⟨S, h1, h2, h3⟩ := h
  obtain ⟨S1, S2, hu, hd, h4, h5⟩ := ht.star h1
  rcases h4 with h4 | h4
  · exact .inl ⟨S, ⟨S1, S2, hu, hd, h4, h5⟩, h2, h3⟩
  · exact .inr ⟨S, ⟨S1, S2, hu, hd, h4, h5⟩, h2, h3⟩
end Go.BK
namespace Go.Proofs.Ytknclcjmfgdphaa
open Go.RowKit Go.BK
/-- A call of the script. -/
structure Op8 where
  k : Int
  r : Rec
  cv : Value
  cs : List Cut
instance : Inhabited Op8 := ⟨⟨0, default, .slice none 0 0, []⟩⟩
def op8C (o : Op8) : List Value := [i64 o.k, i64 o.r.kind, str o.r.text, o.cv]
structure Op8.Ok (o : Op8) (w : World) (S : BSet) : Prop where
  cuts : Sees w S (.row 2 o.cv o.cs.length (o.cs.flatMap cutC))
  cl : o.cs.length ≤ 17592186044416
  tl : o.r.text.length ≤ 140737488355328
def apH (jb mb K : Nat) (nc : Bool) (all : List Rec) (r : Rec) (v : Value) : HP :=
  .or (sepL [.pure (rightF r ≠ 0 ∧ v = i64 (rightF r)), upH jb mb K nc all]) (.or (sepL [.pure (rightF r = 0 ∧ v = i64 0), upH jb mb K nc (all ++ [r])]) (sepL [.pure (rightF r = 0 ∧ nc = false ∧ v = i64 14), dnH mb K (fun x => x = all ∨ x = all ++ [r]), jdH jb mb]))
theorem append8p (jb mb K : Nat) (nc : Bool) (all : List Rec) (r : Rec) (w : World) (S : BSet) (hS : (sepL [upH jb mb K nc all]).sat S w) (hK : K ≤ 1099511627773) (hfew : all.length + 2 < 4294967296) (hrl : r.text.length ≤ 140737488355328) :
    Tri Try.prog 13 #[ptr jb 0, i64 r.kind, str r.text] w S fun u A => ∃ e, u = i64 e ∧ A = [apH jb mb (K + 3) nc all r (i64 e)] := by
  refine (append8 jb mb K nc all r w S hS hK hfew hrl).post fun u A hR => ?_
  rcases hR with ⟨h1, rfl, rfl⟩ | ⟨h1, rfl, rfl⟩ | ⟨h1, h2, rfl, rfl⟩
  · exact ⟨_, ⟨_, rfl, rfl⟩, fun _ h => h.mono fun S w h => star_emp (.inl (sat_pure ⟨h1, rfl⟩ h))⟩
  · exact ⟨_, ⟨_, rfl, rfl⟩, fun _ h => h.mono fun S w h => star_emp (.inr (.inl (sat_pure ⟨h1, rfl⟩ h)))⟩
  · exact ⟨_, ⟨_, rfl, rfl⟩, fun _ h => h.mono fun S w h => star_emp (.inr (.inr (sat_pure ⟨h1, h2, rfl⟩ h)))⟩
section
variable {P : Program} {w0 : World} {S0 : BSet} {n : Nat} {F : Fr} {A rr : List HP} {Q : Exit → Act → World → Prop} {jb mb K : Nat} {nc : Bool} {all : List Rec} {r : Rec} {v : Value}
theorem WC.openAp {c : Code} (ht : Take (apH jb mb K nc all r v) A rr)
    (k1 : rightF r ≠ 0 → v = i64 (rightF r) → WC P w0 S0 n c Q F (upH jb mb K nc all :: rr))
    (k2 : rightF r = 0 → v = i64 0 → WC P w0 S0 n c Q F (upH jb mb K nc (all ++ [r]) :: rr))
    (k3 : rightF r = 0 → v = i64 14 → WC P w0 S0 n c Q F (dnH mb K (fun x => x = all ∨ x = all ++ [r]) :: jdH jb mb :: rr)) : WC P w0 S0 n c Q F A :=
  ⟨fun a w ha hs => by
    rcases hs.orH ht with h | h
    · obtain ⟨hp, h⟩ := (h.unpack .head rfl).pureH .head
      exact (k1 hp.1 hp.2).go a w ha h
    · rcases h.orH .head with h | h
      · obtain ⟨hp, h⟩ := (h.unpack .head rfl).pureH .head
        exact (k2 hp.1 hp.2).go a w ha h
      · obtain ⟨hp, h⟩ := (h.unpack .head rfl).pureH .head
        exact (k3 hp.1 hp.2.2).go a w ha h⟩
def stH (jb mb K : Nat) (all und : List Rec) (d : Bool) : HP := bif d then dnH mb K (fun x => x = all ∨ x = all ++ und) else upH jb mb K false all
theorem up_weak {K' : Nat} {L : List HP} {S : BSet} {w : World} (h : (sepL (upH jb mb K nc all :: L)).sat S w) (hk : K ≤ K') : (sepL (upH jb mb K' false all :: L)).sat S w := by
  obtain ⟨x, ⟨hm, hJ⟩, hx⟩ := up_open h
  exact up_shut x ⟨(hm.up hk).weak, hJ⟩ hx
theorem WE.stUp {e : Exit} {K' : Nat} {und : List Rec} (hk : K ≤ K') (t : Take (upH jb mb K nc all) A rr) (kk : WE w0 S0 n Q e F (stH jb mb K' all und false :: rr)) : WE w0 S0 n Q e F A :=
  kk.conv fun _ hs => hs.mono fun _ _ h => up_weak (L := rr) (t.star h) hk
theorem St.rsUp {w : World} (t : Take (upH jb mb K nc all) A rr) (h : St w0 S0 A w) : St w0 S0 (rsH mb K nc all :: rr) w :=
  h.turn fun S hs => by
    obtain ⟨S', h1, h2⟩ := rs_of_up (t.star hs)
    exact ⟨S', h1, .refl _ _, fun b hb => .inl (h2 b hb)⟩
end
theorem jdead_spec (jb mb : Nat) (st : St8) (lv : Value) (a nx : Int) (w : World) (S : BSet) (hS : (sepL [.blk jb #[str (st).1, .bool (st).2, ptr mb 0, lv, i64 a, i64 nx, .bool true] 41]).sat S w)  :
    Tri Try.prog 23 #[ptr jb 0] w S fun u A => u = .bool true ∧ A = [.blk jb #[str (st).1, .bool (st).2, ptr mb 0, lv, i64 a, i64 nx, .bool true] 41] := by
  refine Tri.enter (l := [ptr jb 0]) Try.func23 rfl Try.ntmps23 rfl [(0, ptr jb 0)] (subA rfl) hS ?_
  repeat first
    | (apply WL.q; exact rfl; exact rfl; exact rfl; (first | (apply EvW.move; exact rfl) | (apply EvW.assign; exact rfl) | (apply EvW.nilPtr; exact rfl) | (apply EvW.fieldAddr0; exact rfl; exact FldC.eq) | (apply EvW.fieldAddr; exact rfl; exact FldC.eq) | (apply EvW.load; exact rfl; exact ScalC.eq; (focus ((repeat constructor); done)); exact rfl) | (apply EvW.ldSeen; exact rfl; exact ScalC.eq; assumption; (first | exact rfl | assumption)) | (apply EvW.ldFld; exact rfl; exact ScalC.eq; assumption; exact fun _ => rfl; omega; exact rfl; exact inferInstance) | (apply EvW.pickT; exact rfl; exact rfl) | (apply EvW.pickF; exact rfl; exact rfl) | (apply EvW.fldRow; exact rfl; exact FldC.eq; assumption; omega) | (apply EvW.fldOwn; exact rfl; exact FldC.eq; (focus ((repeat constructor); done)); omega) | (apply EvW.nilElemOwn; exact rfl; (focus ((repeat constructor); done)); omega) | (apply EvW.nilElemRow; exact rfl; assumption; omega) | (apply EvW.ldFldOwn; exact rfl; exact ScalC.eq; (focus ((repeat constructor); done)); exact fun _ => rfl; omega; exact rfl; exact inferInstance)))
    | refine WC.seq ?_ | refine WC.region ?_ | refine WL.nil ?_ | refine WE.next ?_ | refine WC.skip ?_ | refine WC.exit ?_ | refine WE.pass ?_ | refine WE.hit ?_ | refine WE.miss rfl ?_ | refine WE.out ?_ | refine WC.ret ?_ | refine WE.passRet ?_ | refine WE.outRet ?_ | refine WL.wanted rfl rfl rfl ?_ | refine WL.unwanted rfl rfl rfl rfl ?_ | refine WL.unwantedU rfl rfl rfl rfl ?_ | refine WL.unwanted0 rfl rfl rfl ?_
  refine WE.ret1 rfl rfl ?_
  exact ⟨rfl, rfl⟩
theorem jdead_dn (jb mb : Nat) (w : World) (S : BSet) (hS : (sepL [jdH jb mb]).sat S w) : Tri Try.prog 23 #[ptr jb 0] w S fun u A => u = .bool true ∧ A = [jdH jb mb] := by
  obtain ⟨x, hx⟩ := ex_sat (f := fun x : St8 × JX × Int => [.blk jb #[str (x.1).1, .bool (x.1).2, ptr mb 0, x.2.1.1, i64 x.2.1.2.2, i64 x.2.2, .bool true] 41]) (L := []) hS
  refine (jdead_spec jb mb x.1 x.2.1.1 x.2.1.2.2 x.2.2 w S hx).post fun u B hR => ?_
  obtain ⟨rfl, rfl⟩ := hR
  exact ⟨_, ⟨rfl, rfl⟩, fun _ h => h.mono fun S w h => sat_ex (f := fun x : St8 × JX × Int => [.blk jb #[str (x.1).1, .bool (x.1).2, ptr mb 0, x.2.1.1, i64 x.2.1.2.2, i64 x.2.2, .bool true] 41]) (L := []) x h⟩
def StepR (b K m : Nat) (u : Value) (A : List HP) : Prop := ∃ (mb jb : Nat) (av uv : Value) (all und : List Rec) (d : Bool), u = .bool true ∧ A = [.blk b #[ptr mb 0, ptr jb 0, av, uv] 80, stH jb mb K all und d, .own 34 3 (av) (numd 1 all).length ((numd 1 all).flatMap recC), .own 34 3 (uv) (numd (all.length + 1) und).length ((numd (all.length + 1) und).flatMap recC)] ∧ all.length ≤ m ∧ und.length ≤ 1 ∧ (d = false → und = [])
end Go.Proofs.Ytknclcjmfgdphaa
