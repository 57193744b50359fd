/- The quiet operations. No program in sight. -/
import Derived.Test.YtakffjjnogpolaaLibC
namespace Go.BK
open Go.RowKit

/-- A string by its bytes. -/
abbrev str (l : List UInt8) : Value := .string ⟨l.toArray⟩
abbrev i64 (a : Int) : Value := .int .i64 a
abbrev ptr (b o : Nat) : Value := .pointer (some ⟨b, o, none⟩)

/-- The comparisons of integers. -/
def cmpP : BinOp → Int → Int → Option Prop
  | .eql, a, b => some (a = b)
  | .neq, a, b => some (a ≠ b)
  | .lss, a, b => some (a < b)
  | .leq, a, b => some (a ≤ b)
  | .gtr, a, b => some (b < a)
  | .geq, a, b => some (b ≤ a)
  | _, _, _ => none
def cmpV : BinOp → Int → Int → Option Value
  | .eql, a, b => some (.bool (decide (a = b)))
  | .neq, a, b => some (.bool (decide (a ≠ b)))
  | .lss, a, b => some (.bool (decide (a < b)))
  | .leq, a, b => some (.bool (decide (a ≤ b)))
  | .gtr, a, b => some (.bool (decide (b < a)))
  | .geq, a, b => some (.bool (decide (b ≤ a)))
  | _, _, _ => none
/-- What the other operations on integers give (but / and %). -/
def arV : BinOp → IntKind → Int → Int → Option Int
  | .add, k, a, b => some (k.wrap (a + b))
  | .sub, k, a, b => some (k.wrap (a - b))
  | .mul, k, a, b => some (k.wrap (a * b))
  | .and, k, a, b => some (k.wrap (BitVec.ofInt k.bits a &&& BitVec.ofInt k.bits b).toNat)
  | .or, k, a, b => some (k.wrap (BitVec.ofInt k.bits a ||| BitVec.ofInt k.bits b).toNat)
  | .xor, k, a, b => some (k.wrap (BitVec.ofInt k.bits a ^^^ BitVec.ofInt k.bits b).toNat)
  | .andNot, k, a, b => some (k.wrap (BitVec.ofInt k.bits a &&& ~~~ BitVec.ofInt k.bits b).toNat)
  | _, _, _, _ => none
/-- The same where nothing wraps. -/
def arX : BinOp → Int → Int → Option Int
  | .add, a, b => some (a + b)
  | .sub, a, b => some (a - b)
  | .mul, a, b => some (a * b)
  | _, _, _ => none
theorem wrap_in (k : IntKind) {x : Int} (h : k.min ≤ x ∧ x ≤ k.max) : k.wrap x = x := by
  obtain ⟨h1, h2⟩ := h
  cases k <;> simp only [IntKind.min, IntKind.max, IntKind.signed, IntKind.bits, IntKind.wrap, ↓reduceIte, Bool.true_and, Bool.false_and, Bool.false_eq_true] at h1 h2 ⊢ <;> first | (split <;> rename_i hh <;> simp only [decide_eq_true_eq, ge_iff_le] at hh <;> omega) | omega
theorem wrap_bounds (k : IntKind) (x : Int) : k.min ≤ k.wrap x ∧ k.wrap x ≤ k.max := by
  cases k <;> simp only [IntKind.min, IntKind.max, IntKind.signed, IntKind.bits, IntKind.wrap, ↓reduceIte, Bool.true_and, Bool.false_and, Bool.false_eq_true] <;> first | (split <;> rename_i hh <;> simp only [decide_eq_true_eq, ge_iff_le] at hh <;> omega) | omega
theorem i64_in {x : Int} (h1 : -9223372036854775808 ≤ x) (h2 : x ≤ 9223372036854775807) : IntKind.i64.min ≤ x ∧ x ≤ IntKind.i64.max := ⟨h1, h2⟩

section
variable {P : Program} {w0 : World} {S0 : BSet} {n : Nat} {F : Fr} {A : List HP} {d : Option Tmp} {T : TypeId} {pos : String} {af : Array Edge} {g : Option (Nat × Bool)} {x y : Operand} {v : Value} {t ty : TypeId} {k : IntKind} {a b : Int}

theorem EvW.move (h : ev F x = some v) : EvW P w0 S0 n F A ⟨d, .move x, T, pos, af, g⟩ v := .pure fun a w ha _ => by simp [execOp, ha.eval h]
theorem EvW.assign (h : ev F x = some v) : EvW P w0 S0 n F A ⟨d, .assign x, T, pos, af, g⟩ v := .pure fun a w ha _ => by simp [execOp, ha.eval h]
theorem EvW.pickT {c : Operand} (hc : ev F c = some (.bool true)) (h : ev F x = some v) : EvW P w0 S0 n F A ⟨d, .pick c x y, T, pos, af, g⟩ v := .pure fun a w ha _ => by simp [execOp, ha.eval h, ha.eval hc, asBool]
theorem EvW.pickF {c : Operand} (hc : ev F c = some (.bool false)) (h : ev F y = some v) : EvW P w0 S0 n F A ⟨d, .pick c x y, T, pos, af, g⟩ v := .pure fun a w ha _ => by simp [execOp, ha.eval h, ha.eval hc, asBool]
theorem EvW.nilPtr {p : Addr} (h : ev F x = some (.pointer (some p))) : EvW P w0 S0 n F A ⟨d, .nilCheck x, T, pos, af, g⟩ (.pointer (some p)) := .pure fun a w ha _ => by simp [execOp, ha.eval h]
theorem EvW.fieldAddr {s i off bl o : Nat} (h : ev F x = some (ptr bl o)) (hf : fieldB P s i = some off) : EvW P w0 S0 n F A ⟨d, .fieldAddr s x i, T, pos, af, g⟩ (ptr bl (o + off)) := .pure fun a w ha _ => by simp [execOp, ha.eval h, runFieldAt hf]
theorem EvW.fieldAddr0 {s i off bl : Nat} (h : ev F x = some (ptr bl 0)) (hf : fieldB P s i = some off) : EvW P w0 S0 n F A ⟨d, .fieldAddr s x i, T, pos, af, g⟩ (ptr bl off) := by
  have := EvW.fieldAddr (P := P) (w0 := w0) (S0 := S0) (n := n) (A := A) (d := d) (T := T) (pos := pos) (af := af) (g := g) h hf
  rwa [Nat.zero_add] at this
theorem EvW.load {bl o : Nat} {c : List Value} {U : TypeId} {r : List HP} (hx : ev F x = some (ptr bl o)) (hs : scalB P t = true) (ht : Take (.blk bl c.toArray U) A r) (hc : getL c o = some v) : EvW P w0 S0 n F A ⟨d, .load t x, T, pos, af, g⟩ v :=
  .pure fun a w ha hst => by simp [execOp, ha.eval hx, runLoadScal hs ((hst.blk ht).cell (o := o) (v := v) (by rw [List.getElem?_toArray, ← getL_eq]; exact hc))]
theorem EvW.loadAgg {bl o m : Nat} {c out : List Value} {U : TypeId} {r : List HP} (hx : ev F x = some (ptr bl o)) (hs : aggB P t = true) (hm : szB P t = some m) (ht : Take (.blk bl c.toArray U) A r) (hc : SubL c o m out) : EvW P w0 S0 n F A ⟨d, .load t x, T, pos, af, g⟩ (.agg out.toArray) :=
  .pure fun a w ha hst => by
    obtain ⟨h1, h2⟩ := hc.eq
    have := runLoadAgg (P := P) hs hm (hst.blk ht) (o := o) (by simpa using h1)
    rw [h2] at this
    simp [execOp, ha.eval hx, this]
theorem EvW.loadSees {B : HP} {p : Addr} (hx : ev F x = some (.pointer (some p))) (hs : scalB P t = true) (hB : Sees w0 S0 B) (hc : ∀ R w, B.sat R w → w.cell? p = some v) : EvW P w0 S0 n F A ⟨d, .load t x, T, pos, af, g⟩ v :=
  .pure fun a w ha hst => by obtain ⟨R, hR⟩ := hB.at hst; simp [execOp, ha.eval hx, runLoadScal hs (hc R w hR)]
theorem EvW.loadIn {B : HP} {p : Addr} {r : List HP} (hx : ev F x = some (.pointer (some p))) (hs : scalB P t = true) (ht : Take B A r) (hc : ∀ R w, B.sat R w → w.cell? p = some v) : EvW P w0 S0 n F A ⟨d, .load t x, T, pos, af, g⟩ v :=
  .pure fun a w ha hst => by obtain ⟨R, hR⟩ := hst.take ht; simp [execOp, ha.eval hx, runLoadScal hs (hc R w hR)]

theorem runEqGuard {op : BinOp} {k' : IntKind} {w : World} : (eqGuard op t x y (.int k a) (.int k' b)).run P w = .ok () w := by
  unfold eqGuard; simp
theorem EvW.ar {op : BinOp} {r : Int} (hx : ev F x = some (.int k a)) (hy : ev F y = some (.int k b)) (hr : arV op k a b = some r) : EvW P w0 S0 n F A ⟨d, .binOp op t x y ty, T, pos, af, g⟩ (.int k r) :=
  .pure fun a w ha _ => by
    cases op <;> simp [arV] at hr <;> subst hr <;> simp [execOp, ha.eval hx, ha.eval hy, runEqGuard, binOp, Op.intArith, Op.intBits]
theorem EvW.arN {op : BinOp} {r : Int} (hx : ev F x = some (.int k a)) (hy : ev F y = some (.int k b)) (hr : arX op a b = some r) (hw : k.min ≤ r ∧ r ≤ k.max) : EvW P w0 S0 n F A ⟨d, .binOp op t x y ty, T, pos, af, g⟩ (.int k r) := by
  have h := wrap_in k hw
  cases op <;> simp [arX] at hr <;> subst hr
  · exact .ar hx hy (by simp [arV, h])
  · exact .ar hx hy (by simp [arV, h])
  · exact .ar hx hy (by simp [arV, h])
theorem EvW.cmp {op : BinOp} (hx : ev F x = some (.int k a)) (hy : ev F y = some (.int k b)) (hr : cmpV op a b = some v) : EvW P w0 S0 n F A ⟨d, .binOp op t x y ty, T, pos, af, g⟩ v :=
  .pure fun a' w ha _ => by
    cases op <;> simp [cmpV] at hr <;> subst hr <;> simp [execOp, ha.eval hx, ha.eval hy, runEqGuard, binOp, Op.intCmp] <;> (cases h : decide (a = b) <;> simp_all [bne])
theorem EvW.cmpT {op : BinOp} {p : Prop} (hx : ev F x = some (.int k a)) (hy : ev F y = some (.int k b)) (hr : cmpP op a b = some p) (hp : p) : EvW P w0 S0 n F A ⟨d, .binOp op t x y ty, T, pos, af, g⟩ (.bool true) := by
  cases op <;> cases hr <;> exact .cmp hx hy (by simp [cmpV]; exact hp)
theorem EvW.cmpF {op : BinOp} {p : Prop} (hx : ev F x = some (.int k a)) (hy : ev F y = some (.int k b)) (hr : cmpP op a b = some p) (hp : ¬ p) : EvW P w0 S0 n F A ⟨d, .binOp op t x y ty, T, pos, af, g⟩ (.bool false) := by
  cases op <;> cases hr <;> exact .cmp hx hy (by simp [cmpV]; first | exact Int.not_lt.1 hp | exact Int.not_le.1 hp | (exact hp) | (exact Classical.not_not.1 hp))
theorem EvW.quo (hx : ev F x = some (.int k a)) (hy : ev F y = some (.int k b)) (hb : b ≠ 0) : EvW P w0 S0 n F A ⟨d, .binOp .quo t x y ty, T, pos, af, g⟩ (.int k (k.wrap (a.tdiv b))) :=
  .pure fun a' w ha _ => by simp [execOp, ha.eval hx, ha.eval hy, runEqGuard, binOp, Op.intDiv, hb]
theorem EvW.rem (hx : ev F x = some (.int k a)) (hy : ev F y = some (.int k b)) (hb : b ≠ 0) : EvW P w0 S0 n F A ⟨d, .binOp .rem t x y ty, T, pos, af, g⟩ (.int k (a.tmod b)) :=
  .pure fun a' w ha _ => by simp [execOp, ha.eval hx, ha.eval hy, runEqGuard, binOp, Op.intDiv, hb]
theorem EvW.shl {k' : IntKind} (hx : ev F x = some (.int k a)) (hy : ev F y = some (.int k' b)) (hb : 0 ≤ b) : EvW P w0 S0 n F A ⟨d, .binOp .shl t x y ty, T, pos, af, g⟩ (.int k (k.wrap (a * 2 ^ (min b.toNat k.bits)))) :=
  .pure fun a' w ha _ => by
    have : ¬ b < 0 := by omega
    simp [execOp, ha.eval hx, ha.eval hy, runEqGuard, binOp, Op.shift, this]
theorem EvW.shr {k' : IntKind} (hx : ev F x = some (.int k a)) (hy : ev F y = some (.int k' b)) (hb : 0 ≤ b) : EvW P w0 S0 n F A ⟨d, .binOp .shr t x y ty, T, pos, af, g⟩ (.int k (a.fdiv (2 ^ (min b.toNat k.bits)))) :=
  .pure fun a' w ha _ => by
    have : ¬ b < 0 := by omega
    simp [execOp, ha.eval hx, ha.eval hy, runEqGuard, binOp, Op.shift, this]
theorem EvW.neg (hx : ev F x = some (.int k a)) : EvW P w0 S0 n F A ⟨d, .unOp .neg t x, T, pos, af, g⟩ (.int k (k.wrap (0 - a))) :=
  .pure fun a' w ha _ => by simp [execOp, ha.eval hx, Op.unary, Op.intArith]
theorem EvW.not {c : Bool} (hx : ev F x = some (.bool c)) : EvW P w0 S0 n F A ⟨d, .unOp .not t x, T, pos, af, g⟩ (.bool (!c)) :=
  .pure fun a' w ha _ => by simp [execOp, ha.eval hx, Op.unary]
theorem EvW.notT (hx : ev F x = some (.bool true)) : EvW P w0 S0 n F A ⟨d, .unOp .not t x, T, pos, af, g⟩ (.bool false) := .not hx
theorem EvW.notF (hx : ev F x = some (.bool false)) : EvW P w0 S0 n F A ⟨d, .unOp .not t x, T, pos, af, g⟩ (.bool true) := .not hx
theorem EvW.notP {p : Prop} [Decidable p] (hx : ev F x = some (.bool (decide p))) : EvW P w0 S0 n F A ⟨d, .unOp .not t x, T, pos, af, g⟩ (.bool (decide (¬ p))) := by
  have := EvW.not (P := P) (w0 := w0) (S0 := S0) (n := n) (A := A) (d := d) (T := T) (pos := pos) (af := af) (g := g) (t := t) hx
  rwa [show (!decide p) = decide (¬ p) from by simp] at this
theorem runEqBool {c e : Bool} {w : World} (hu : P.underlying t = some .bool) : (Op.equal t (.bool c) (.bool e)).run P w = .ok (c == e) w := by
  have key : ∀ m, (Op.equalIn (m + 1) t (.bool c) (.bool e)).run P w = .ok (c == e) w := fun m => by simp [Op.equalIn, run_underlying hu]
  exact key 9999
/-- One truth against another. -/
theorem EvW.beq {c e : Bool} (hx : ev F x = some (.bool c)) (hy : ev F y = some (.bool e)) (hu : P.underlying t = some .bool) : EvW P w0 S0 n F A ⟨d, .binOp .eql t x y ty, T, pos, af, g⟩ (.bool (c == e)) :=
  .pure fun a' w ha _ => by simp [execOp, ha.eval hx, ha.eval hy, eqGuard, binOp, runEqBool hu]
theorem EvW.bne {c e : Bool} (hx : ev F x = some (.bool c)) (hy : ev F y = some (.bool e)) (hu : P.underlying t = some .bool) : EvW P w0 S0 n F A ⟨d, .binOp .neq t x y ty, T, pos, af, g⟩ (.bool (!(c == e))) :=
  .pure fun a' w ha _ => by simp [execOp, ha.eval hx, ha.eval hy, eqGuard, binOp, runEqBool hu]
theorem sizeMk (l : List UInt8) : (ByteArray.mk l.toArray).size = l.length := rfl
theorem toList_eq (l : List UInt8) : (ByteArray.mk l.toArray).toList = l := by
  simp
theorem EvW.seq {l m : List UInt8} (hx : ev F x = some (str l)) (hy : ev F y = some (str m)) : EvW P w0 S0 n F A ⟨d, .binOp .eql t x y ty, T, pos, af, g⟩ (.bool (decide (l = m))) :=
  .pure fun a' w ha _ => by
    have h : (l == m) = decide (l = m) := by cases h : decide (l = m) <;> simp_all
    simp [execOp, ha.eval hx, ha.eval hy, eqGuard, binOp, Op.stringOp, h]
theorem EvW.sne {l m : List UInt8} (hx : ev F x = some (str l)) (hy : ev F y = some (str m)) : EvW P w0 S0 n F A ⟨d, .binOp .neq t x y ty, T, pos, af, g⟩ (.bool (decide (l ≠ m))) :=
  .pure fun a' w ha _ => by
    have h : (!(l == m)) = decide (l ≠ m) := by cases h : decide (l = m) <;> simp_all
    simp [execOp, ha.eval hx, ha.eval hy, eqGuard, binOp, Op.stringOp, h]
theorem EvW.sadd {l m : List UInt8} (hx : ev F x = some (str l)) (hy : ev F y = some (str m)) (hl : (l.length : Int) + m.length ≤ 9223372036854775807) : EvW P w0 S0 n F A ⟨d, .binOp .add t x y ty, T, pos, af, g⟩ (str (l ++ m)) :=
  .pure fun a' w ha _ => by
    have e : (ByteArray.mk l.toArray) ++ (ByteArray.mk m.toArray) = ByteArray.mk (l ++ m).toArray := by
      apply ByteArray.ext; simp
    simp [execOp, ha.eval hx, ha.eval hy, eqGuard, binOp, Op.stringOp, sizeMk, hl, e]

theorem EvW.conv {k' : IntKind} (hx : ev F x = some (.int k a)) {d0 : TypeDesc} (hu : P.underlying ty = some (.int k')) (he : P.underlying t = some d0) : EvW P w0 S0 n F A ⟨d, .convert t ty x, T, pos, af, g⟩ (.int k' (k'.wrap a)) := by
  exact .pure fun a' w ha _ => by simp [execOp, ha.eval hx, convert, run_underlying hu, run_underlying he, Conv.intToInt]
theorem EvW.convN {k' : IntKind} (hx : ev F x = some (.int k a)) {d0 : TypeDesc} (hu : P.underlying ty = some (.int k')) (he : P.underlying t = some d0) (hw : k'.min ≤ a ∧ a ≤ k'.max) : EvW P w0 S0 n F A ⟨d, .convert t ty x, T, pos, af, g⟩ (.int k' a) := by
  have := EvW.conv (P := P) (w0 := w0) (S0 := S0) (n := n) (A := A) (d := d) (T := T) (pos := pos) (af := af) (g := g) hx hu he
  rwa [wrap_in k' hw] at this
/-- What fits a kind fits a wider one. -/
theorem EvW.convW {k' k2 : IntKind} {d0 : TypeDesc} (hx : ev F x = some (.int k (k2.wrap a))) (hu : P.underlying ty = some (.int k')) (he : P.underlying t = some d0) (hk : (decide (k'.min ≤ k2.min) && decide (k2.max ≤ k'.max)) = true) : EvW P w0 S0 n F A ⟨d, .convert t ty x, T, pos, af, g⟩ (.int k' (k2.wrap a)) :=
  .convN hx hu he (by
    simp only [Bool.and_eq_true, decide_eq_true_eq] at hk
    have := wrap_bounds k2 a
    omega)
theorem EvW.extract {vs : List Value} {i : Nat} (hx : ev F x = some (.tuple vs.toArray)) (hi : getL vs i = some v) : EvW P w0 S0 n F A ⟨d, .extract x i, T, pos, af, g⟩ v :=
  .pure fun a' w ha _ => by rw [getL_eq] at hi; simp [execOp, ha.eval hx, Instr.extract, hi]
theorem EvW.lenS {l : List UInt8} (hx : ev F x = some (str l)) (hu : P.underlying t = some .string) : EvW P w0 S0 n F A ⟨d, .call ⟨.builtin .len, #[x], #[t]⟩, T, pos, af, g⟩ (i64 l.length) :=
  .pure fun a' w ha _ => by simp [execOp, resolve, invoke, builtin, Builtin.len_, ha.eval hx, run_underlying hu, goInt, sizeMk]
theorem EvW.lenL {p : Option Addr} {e : TypeId} {len cap : Nat} (hx : ev F x = some (.slice p len cap)) (hu : P.underlying t = some (.slice e)) : EvW P w0 S0 n F A ⟨d, .call ⟨.builtin .len, #[x], #[t]⟩, T, pos, af, g⟩ (i64 len) :=
  .pure fun a' w ha _ => by simp [execOp, resolve, invoke, builtin, Builtin.len_, ha.eval hx, run_underlying hu, goInt]
theorem EvW.max2 (hx : ev F x = some (.int k a)) (hy : ev F y = some (.int k b)) {ts : Array TypeId} : EvW P w0 S0 n F A ⟨d, .call ⟨.builtin .max, #[x, y], ts⟩, T, pos, af, g⟩ (.int k (max a b)) :=
  .pure fun a' w ha _ => by
    have : (if a < b then b else a) = max a b := by omega
    simp [execOp, resolve, invoke, builtin, Builtin.max_, Builtin.max2, ha.eval hx, ha.eval hy, this]
theorem EvW.min2 (hx : ev F x = some (.int k a)) (hy : ev F y = some (.int k b)) {ts : Array TypeId} : EvW P w0 S0 n F A ⟨d, .call ⟨.builtin .min, #[x, y], ts⟩, T, pos, af, g⟩ (.int k (min a b)) :=
  .pure fun a' w ha _ => by
    have : (if b < a then b else a) = min a b := by omega
    simp [execOp, resolve, invoke, builtin, Builtin.min_, Builtin.min2, ha.eval hx, ha.eval hy, this]
theorem EvW.index {l : List UInt8} (hx : ev F x = some (str l)) (hy : ev F y = some (.int k a)) (hu : P.underlying t = some .string) (h0 : 0 ≤ a) (h1 : a < l.length) : EvW P w0 S0 n F A ⟨d, .index t x y, T, pos, af, g⟩ (.int .u8 (l.getD a.toNat 0).toNat) :=
  .pure fun a' w ha _ => by
    have hlt : a.toNat < l.length := by omega
    have : (ByteArray.mk l.toArray)[a.toNat]? = some (l.getD a.toNat 0) := by
      rw [getElem?_pos _ _ (by simpa [ByteArray.size] using hlt)]
      simp [ByteArray.getElem_eq_getElem_data, hlt]
    simp [execOp, Instr.index, ha.eval hx, ha.eval hy, asIntOf, run_underlying hu, h0, this]
theorem runBound {w : World} {i : Int} {m : Nat} {code : BoundsCode} (h0 : 0 ≤ i) (h1 : i ≤ m) : (Instr.sliceBound (.int k i) m code).run P w = .ok i.toNat w := by
  simp [Instr.sliceBound, asIntOf, h0, h1]
theorem extract_eq (l : List UInt8) (i j : Nat) : (ByteArray.mk l.toArray).extract i j = ByteArray.mk ((l.take j).drop i).toArray := by
  apply ByteArray.ext
  simp [List.extract_eq_take_drop, List.drop_take]
theorem EvW.sliceS {l : List UInt8} {lo hi : Operand} {k1 k2 : IntKind} (hx : ev F x = some (str l)) (hu : P.underlying t = some .string) (hlo : ev F lo = some (.int k1 a)) (hhi : ev F hi = some (.int k2 b)) (h0 : 0 ≤ a) (h1 : a ≤ b) (h2 : b ≤ l.length) :
    EvW P w0 S0 n F A ⟨d, .slice t x (some lo) (some hi) none, T, pos, af, g⟩ (str ((l.take b.toNat).drop a.toNat)) :=
  .pure fun a' w ha _ => by
    have e1 : (Instr.sliceBound (.int k2 b) (ByteArray.mk l.toArray).size .sliceAlen).run P w = .ok b.toNat w := runBound (by omega) (by simpa [ByteArray.size] using h2)
    have e2 : (Instr.sliceBound (.int k1 a) b.toNat .sliceB).run P w = .ok a.toNat w := runBound h0 (by omega)
    simp [execOp, Instr.sliceAt, Instr.slice, Instr.sliceBounds, ha.eval hx, ha.eval hlo, ha.eval hhi, run_underlying hu, e1, e2, extract_eq]
theorem EvW.sliceS_lo {l : List UInt8} {lo : Operand} {k1 : IntKind} (hx : ev F x = some (str l)) (hu : P.underlying t = some .string) (hlo : ev F lo = some (.int k1 a)) (h0 : 0 ≤ a) (h1 : a ≤ l.length) :
    EvW P w0 S0 n F A ⟨d, .slice t x (some lo) none none, T, pos, af, g⟩ (str (l.drop a.toNat)) :=
  .pure fun a' w ha _ => by
    have e2 : (Instr.sliceBound (.int k1 a) l.length .sliceB).run P w = .ok a.toNat w := runBound h0 (by omega)
    simp [execOp, Instr.sliceAt, Instr.slice, Instr.sliceBounds, ha.eval hx, ha.eval hlo, run_underlying hu, sizeMk, e2, extract_eq]
theorem EvW.sliceS_hi {l : List UInt8} {hi : Operand} {k1 : IntKind} (hx : ev F x = some (str l)) (hu : P.underlying t = some .string) (hhi : ev F hi = some (.int k1 b)) (h0 : 0 ≤ b) (h1 : b ≤ l.length) :
    EvW P w0 S0 n F A ⟨d, .slice t x none (some hi) none, T, pos, af, g⟩ (str (l.take b.toNat)) :=
  .pure fun a' w ha _ => by
    have e2 : (Instr.sliceBound (.int k1 b) l.length .sliceAlen).run P w = .ok b.toNat w := runBound h0 (by omega)
    simp [execOp, Instr.sliceAt, Instr.slice, Instr.sliceBounds, ha.eval hx, ha.eval hhi, run_underlying hu, sizeMk, e2, extract_eq]
theorem EvW.indexAddr {e : TypeId} {sz bl o len cap : Nat} (hx : ev F x = some (.slice (some ⟨bl, o, none⟩) len cap)) (hy : ev F y = some (.int k a)) (hu : P.underlying t = some (.slice e)) (hz : szB P e = some sz) (h0 : 0 ≤ a) (h1 : a < len) :
    EvW P w0 S0 n F A ⟨d, .indexAddr t x y, T, pos, af, g⟩ (ptr bl (o + a.toNat * sz)) :=
  .pure fun a' w ha _ => by
    have e1 : Addr.add ⟨bl, o, none⟩ (a.toNat * sz) = ⟨bl, o + a.toNat * sz, none⟩ := by
      unfold Addr.add; split
      · rename_i e; rw [e]; rfl
      · rfl
    simp [execOp, Instr.indexAt, ha.eval hx, ha.eval hy, asIntOf, run_underlying hu, h0, h1, runSz hz, e1]
theorem EvW.field {s i off : Nat} {cs : List Value} (hx : ev F x = some (.agg cs.toArray)) (hf : fieldV P s i = some (off, none)) (hc : getL cs off = some v) : EvW P w0 S0 n F A ⟨d, .field s x i, T, pos, af, g⟩ v :=
  .pure fun a' w ha _ => by
    rw [getL_eq] at hc
    unfold fieldV at hf
    split at hf
    · rename_i fs hu
      split at hf
      · rename_i f hff
        split at hf
        · rename_i hag; cases hz : szB P f.type <;> simp [hz] at hf
        · split at hf
          · rename_i hs
            simp at hf
            simp [execOp, Instr.field, ha.eval hx, run_underlying hu, hff, asAgg, part, runScal hs, hf, hc]
          · simp at hf
      · simp at hf
    · simp at hf
theorem EvW.fieldAgg {s i off m : Nat} {cs out : List Value} (hx : ev F x = some (.agg cs.toArray)) (hf : fieldV P s i = some (off, some m)) (hc : SubL cs off m out) : EvW P w0 S0 n F A ⟨d, .field s x i, T, pos, af, g⟩ (.agg out.toArray) :=
  .pure fun a' w ha _ => by
    rw [← hc.eq.2]
    unfold fieldV at hf
    split at hf
    · rename_i fs hu
      split at hf
      · rename_i f hff
        split at hf
        · rename_i hag
          cases hz : szB P f.type with
          | none => simp [hz] at hf
          | some q =>
            simp [hz] at hf
            simp [execOp, Instr.field, ha.eval hx, run_underlying hu, hff, asAgg, part, runAgg hag, runSz hz, hf.1, hf.2]
        · split at hf
          · simp at hf
          · simp at hf
      · simp at hf
    · simp at hf
end
end Go.BK
