/- Bundles of what is owned, of which one is taken out and put back; copies into a slice of the call's own. No program in sight. -/
import Derived.Test.YtakffjjnogpolaaLibW
namespace Go.BK
open Go.RowKit

section
variable {P : Program} {w0 : World} {S0 : BSet} {n : Nat} {F : Fr} {A A' r r' : List HP} {dd : Option Tmp} {T : TypeId} {pos : String} {af : Array Edge} {x y : Operand} {t ty : TypeId} {g : Option (Nat × Bool)} {ops : Array Oper} {rest : List Oper} {Q : Exit → Act → World → Prop} {L L' : List HP} {z : HP}

theorem take_at : ∀ {L : List HP} {i : Nat} {z : HP}, L[i]? = some z → Take z L (L.eraseIdx i)
  | [], _, _, h => by simp at h
  | a :: L, 0, z, h => by simp at h; subst h; exact .head
  | a :: L, i + 1, z, h => .tail (take_at (by simpa using h))
theorem take_set : ∀ {L : List HP} {i : Nat} (z : HP), i < L.length → Take z (L.set i z) (L.eraseIdx i)
  | [], _, _, h => by simp at h
  | a :: L, 0, z, _ => .head
  | a :: L, i + 1, z, h => .tail (take_set z (by simpa using h))
theorem St.out {w : World} (ht : Take (sepL L) A r) (hz : Take z L L') (h : St w0 S0 A w) : St w0 S0 (z :: sepL L' :: r) w :=
  h.mono fun _ _ hs => star_assoc (star_mono (ht.star hs) (fun _ h => hz.star h) fun _ h => h)
theorem St.back {w : World} (hz : Take z L L') (h : St w0 S0 (z :: sepL L' :: r) w) : St w0 S0 (sepL L :: r) w :=
  h.mono fun _ _ hs => star_mono (star_assoc' hs) (fun _ h => hz.unstar h) fun _ h => h
theorem WL.out (ht : Take (sepL L) A r) (hz : Take z L L') (kk : WL P w0 S0 n ops Q rest F (z :: sepL L' :: r)) : WL P w0 S0 n ops Q rest F A := kk.conv fun _ hs => St.out ht hz hs
theorem WC.out {c : Code} (ht : Take (sepL L) A r) (hz : Take z L L') (kk : WC P w0 S0 n c Q F (z :: sepL L' :: r)) : WC P w0 S0 n c Q F A := kk.conv fun _ hs => St.out ht hz hs
theorem WL.back (h : TakeL [z, sepL L'] A r) (hz : Take z L L') (kk : WL P w0 S0 n ops Q rest F (sepL L :: r)) : WL P w0 S0 n ops Q rest F A := kk.conv fun _ hs => St.back hz (hs.mono fun _ _ h => h1 h)
where h1 {S : BSet} {w : World} (h' : (sepL A).sat S w) : (sepL (z :: sepL L' :: r)).sat S w := by
        have := h.star h'
        obtain ⟨S1, S2, hu, hd, h3, h4⟩ := this
        exact sepL_append (A := [z, sepL L']) ⟨S1, S2, hu, hd, h3, h4⟩
theorem WC.back {c : Code} (h : TakeL [z, sepL L'] A r) (hz : Take z L L') (kk : WC P w0 S0 n c Q F (sepL L :: r)) : WC P w0 S0 n c Q F A := kk.conv fun _ hs => St.back hz (hs.mono fun _ _ h' => sepL_append (A := [z, sepL L']) (h.star h'))
theorem WE.back {e : Exit} (h : TakeL [z, sepL L'] A r) (hz : Take z L L') (kk : WE w0 S0 n Q e F (sepL L :: r)) : WE w0 S0 n Q e F A := kk.conv fun _ hs => St.back hz (hs.mono fun _ _ h' => sepL_append (A := [z, sepL L']) (h.star h'))
/-- A copy of a whole list of one-celled things into a list of that length, of the call's own. -/
theorem EffW.copyOwn {e e1 e2 T2 : TypeId} {dv sv : Value} {N : Nat} {dcs scs : List Value} {r2 : List HP} (hx : ev F x = some dv) (hy : ev F y = some sv) (hu : P.underlying t = some (.slice e)) (hz : szB P e = some 1) (ht : Take (.own e1 1 dv N dcs) A r) (hs : Take (.own e2 1 sv N scs) A r2) (h1 : scs.all (·.oneCell') = true) (hN : 0 < N) (ht' : Take (.own e1 1 dv N scs) A' r) :
    EffW P w0 S0 n F A A' ⟨dd, .call ⟨.builtin .copy, #[x, y], #[t, T2]⟩, T, pos, af, g⟩ (i64 N) := by
  refine ⟨fun Q K a w ha hst hK => ?_⟩
  obtain ⟨R2, hR2⟩ := hst.take hs
  obtain ⟨S, hs1, hs2, hs3⟩ := id hst
  obtain ⟨S1, S2, hun, hd, ⟨hcl, h⟩, h5⟩ := ht.star hs1
  obtain ⟨hcl2, h2'⟩ := hR2
  rcases h with ⟨_, h4, _⟩ | ⟨b, cap, sp, h3, h4, h6, hS1, lo, hi, hh, hfr⟩
  · omega
  rcases h2' with ⟨_, k4, _⟩ | ⟨b2, cap2, sp2, k3, k4, k6, kS1, lo2, hi2, kh, kfr⟩
  · omega
  subst h3 k3
  rw [Nat.mul_one] at hcl hcl2
  have hle : 0 + scs.length ≤ (dcs ++ sp).length := by rw [List.length_append]; omega
  have hld : (loadCells ⟨b2, 0, none⟩ (N * 1)).run P w = .ok scs.toArray w := by
    have := runLoadCells (P := P) (w := w) (b := b2) (scs ++ sp2).toArray 0 N 0 #[] (fun j hj _ => by simp [World.cell?, kh]) (by simp; omega)
    unfold loadCells
    rw [Nat.mul_one, this]
    congr 1
    apply Array.ext'
    simp [List.extract_eq_take_drop]
    rw [List.take_left' hcl2]
  have hsc := runStoreCells (P := P) (bl := b) scs 0 0 (dcs ++ sp) w hh (by simpa using hfr) h1 (by omega)
  have hov : over (dcs ++ sp) 0 scs = scs ++ sp := by
    unfold over
    rw [List.take_zero, List.nil_append, Nat.zero_add, List.drop_append_of_le_length (by omega), List.drop_of_length_le (by omega), List.nil_append]
  have hmin : Nat.min N N = N := Nat.min_self N
  have hrun : (execOp a.eval ⟨dd, .call ⟨.builtin .copy, #[x, y], #[t, T2]⟩, T, pos, af, g⟩).run P w = .ok (.value (i64 N)) { w with heap := w.heap.setIfInBounds b (.cells (scs ++ sp).toArray e1 (lo, hi)) } := by
    simp only [Nat.add_zero] at hsc
    rw [hov] at hsc
    rw [Nat.mul_one] at hld
    simp [execOp, resolve, invoke, builtin, ha.eval hx, ha.eval hy, Builtin.copy_, Builtin.lenOf, Builtin.firstCells, run_underlying hu, runSz hz, Result.andThen, hmin, hld, hsc, goInt]
  unfold Oper.wp
  rw [hrun]
  have hA : St w0 S0 (.blk b (dcs ++ sp).toArray e1 :: r) w := ⟨S, ⟨S1, S2, hun, hd, ⟨hS1, lo, hi, hh, hfr⟩, h5⟩, hs2, hs3⟩
  have hupd : St w0 S0 (.blk b (scs ++ sp).toArray e1 :: r) { w with heap := w.heap.setIfInBounds b (.cells (scs ++ sp).toArray e1 (lo, hi)) } := by
    refine hA.write .head (fun lo' hi' h8 _ => ?_) (by simp; omega)
    rw [hh] at h8
    injection h8 with h8
    cases h8
    rfl
  refine hK _ (hupd.mono fun S' w' hs' => ht'.unstar (star_mono hs' (fun S'' h => ?_) fun _ h => h))
  exact blk_own h (by omega) h4 (by rw [List.length_append] at h6 ⊢; omega)
/-- A part of a list of the call's own, and the text that it is. -/
theorem EvW.sliceOwn {ee e : TypeId} {sz len : Nat} {v : Value} {cs : List Value} {lo hi : Operand} {k1 k2 : IntKind} {a b : Int} (hx : ev F x = some v) (ht : Take (.own ee sz v len cs) A r) (hu : P.underlying t = some (.slice e)) (hz : szB P e = some sz) (hlo : ev F lo = some (.int k1 a)) (hhi : ev F hi = some (.int k2 b)) (h0 : 0 ≤ a) (h1 : a ≤ b) (h2 : b ≤ len) :
    EvW P w0 S0 n F A ⟨dd, .slice t x (some lo) (some hi) none, T, pos, af, g⟩ (subSl sz a.toNat b.toNat v) :=
  .pure fun a' w ha hst => by
    obtain ⟨S, hS⟩ := hst.take ht
    obtain ⟨a, rfl⟩ := Int.eq_ofNat_of_zero_le h0
    obtain ⟨b, rfl⟩ := Int.eq_ofNat_of_zero_le (Int.le_trans h0 h1)
    rcases own_shape hS with ⟨h3, h4, _⟩ | ⟨b', cap, h3, h5⟩
    · subst h3; subst h4
      simp [execOp, ha.eval hx, ha.eval hlo, ha.eval hhi, runSliceL (len := 0) (p := none) (w := w) (cap := 0) (lo := a) (hi := b) hu hz (by omega) (by omega) (.inl rfl) (.inl rfl)]
    · subst h3
      simp [execOp, ha.eval hx, ha.eval hlo, ha.eval hhi, runSliceL (len := len) (p := some ⟨b', 0, none⟩) (w := w) (cap := cap) (lo := a) (hi := b) hu hz (by omega) (by omega) (.inl rfl) (.inl rfl)]
theorem EvW.strSubOwn {ee e : TypeId} {len lo hi : Nat} {v : Value} {l : List UInt8} (hx : ev F x = some (subSl 1 lo hi v)) (hu : P.underlying t = some (.slice e)) (he : P.underlying e = some (.int .u8)) (hd : P.underlying ty = some .string) (ht : Take (.own ee 1 v len (l.map byt)) A r) (h1 : lo ≤ hi) (h2 : hi ≤ len) : EvW P w0 S0 n F A ⟨dd, .convert t ty x, T, pos, af, g⟩ (str ((l.take hi).drop lo)) :=
  .pure fun a' w ha hst => by
    obtain ⟨R, hR⟩ := hst.take ht
    have hR := own_row hR
    have hl : l.length = len := by have := hR.1; simpa using this
    have hs : Sees w (fun _ => False) (.row 1 v len (l.map byt)) := ⟨R, hR, fun _ _ h => h⟩
    obtain ⟨R', hR', _⟩ := hs.subRow h1 h2
    rw [Nat.mul_one, Nat.mul_one, ← List.map_take, ← List.map_drop, show hi - lo = ((l.take hi).drop lo).length by rw [List.length_drop, List.length_take]; omega] at hR'
    simp [execOp, ha.eval hx, runStrRow hu he hd hR']
end
end Go.BK
